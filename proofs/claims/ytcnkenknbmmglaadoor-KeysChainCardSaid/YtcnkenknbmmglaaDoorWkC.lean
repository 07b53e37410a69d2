/- Chapter 20: KeysChain, walked. -/
import Derived.Test.YtcnkenknbmmglaaDoorLkC
import Derived.Test.YtcnkenknbmmglaaDoorXhead20
import Derived.Test.YtcnkenknbmmglaaDoorGp2R
import Derived.Deep.RegionHeld3
set_option linter.unusedSimpArgs false
set_option linter.unusedVariables false
namespace Go.Proofs.YtcnkenknbmmglaaDoor.P
open Go Go.RowKit Go.Proofs.YtcnkenknbmmglaaDoorW.PrintWords Go.Proofs.YtcnkenknbmmglaaDoorW.PrintLast Go.Proofs.YtcnkenknbmmglaaDoorW.PrintMore Go.Proofs.YtcnkenknbmmglaaDoor.Ord

theorem wf_u64' {a : Int} (h : (Lit.int .u16 a).wf = true) : 0 ≤ a ∧ a ≤ 65535 := by
  simp [Lit.wf, IntKind.min, IntKind.max, IntKind.bits, IntKind.signed] at h
  omega
theorem lit_V1 (W : World) (a : S28) : Kd.C k28 (W.alloc (Obj.cells #[.int .i64 a.f0, .int .i64 a.f1, .int .i64 a.f2, .int .i64 a.f3, .int .i64 a.f4.f0, .int .i64 a.f4.f1] 28)) (some ⟨W.heap.size, 0, none⟩) 1 [a] :=
  C_parts (d := k28) W [a] [vC a] 28 (by simp) ⟨k28_mk _ _, trivial⟩
theorem belN {w W W' : World} (h : Below w.heap.size w W) (hd : Below W.heap.size W W') : Below w.heap.size w W' := h.trans (Below.mono hd h.size)
theorem belD {w W W' : World} (h : Below w.heap.size w W) (hd : Below W.drew.heap.size W.drew W') : Below w.heap.size w W' := belN h.drew hd
theorem belA {w W W' : World} {o : Obj} (h : Below w.heap.size w W) (hd : Below (W.alloc o).heap.size (W.alloc o) W') : Below w.heap.size w W' := belN (h.alloc h.size o) hd
theorem belAD {w W W' : World} {o : Obj} (h : Below w.heap.size w W) (hd : Below (W.alloc o).drew.heap.size (W.alloc o).drew W') : Below w.heap.size w W' := belN (h.alloc h.size o).drew hd
theorem blk_after {W W' : World} {t : TypeId} {vs : List Value} (hd : Below (W.alloc (.cells vs.toArray t)).heap.size (W.alloc (.cells vs.toArray t)) W') : Blk W' W.heap.size t vs := (Blk.box W t vs).1.below hd (Blk.box W t vs).1.lt
theorem blk_afterD {W W' : World} {t : TypeId} {vs : List Value} (hd : Below (W.alloc (.cells vs.toArray t)).drew.heap.size (W.alloc (.cells vs.toArray t)).drew W') : Blk W' W.heap.size t vs := (Blk.box W t vs).1.drew.below hd (Blk.box W t vs).1.drew.lt
set_option maxHeartbeats 400000 in
theorem step_sto {ops : Array Oper} {a : Act} {K : Act → World → Prop} {Q : Exit → Act → World → Prop} {E : Prop} {W : World} {pos : String} {af : Array Edge} (i j : Nat) (B : Nat) (v0 v1 v2 v3 v4 v5 : Int) (z0 z1 z2 z3 z4 z5 : Value)
    (hp : a.tmps[i]? = some (.pointer (some ⟨B, 0, none⟩))) (hx : a.tmps[j]? = some (.agg #[.int .i64 v0, .int .i64 v1, .int .i64 v2, .int .i64 v3, .int .i64 v4, .int .i64 v5])) (hz : Blk W B 28 [z0, z1, z2, z3, z4, z5])
    (h : K a ((((((W.setCell ⟨B, 0, none⟩ (.int .i64 v0)).setCell ⟨B, 1, none⟩ (.int .i64 v1)).setCell ⟨B, 2, none⟩ (.int .i64 v2)).setCell ⟨B, 3, none⟩ (.int .i64 v3)).setCell ⟨B, 4, none⟩ (.int .i64 v4)).setCell ⟨B, 5, none⟩ (.int .i64 v5))) :
    if Region.wanted { dst := none, op := .store 28 (.tmp i) (.tmp j), type := 28, pos := pos, after := af, guard := none } (yielded ops a.tmps) = true then Oper.wp Tryd.prog { dst := none, op := .store 28 (.tmp i) (.tmp j), type := 28, pos := pos, after := af, guard := none } a W K Q else E := by
  have z0 := hz.cell 0 _ rfl
  have z1 := hz.cell 1 _ rfl
  have z2 := hz.cell 2 _ rfl
  have z3 := hz.cell 3 _ rfl
  have z4 := hz.cell 4 _ rfl
  have z5 := hz.cell 5 _ rfl
  have y0 := hz.frozen 0
  have y1 := hz.frozen 1
  have y2 := hz.frozen 2
  have y3 := hz.frozen 3
  have y4 := hz.frozen 4
  have y5 := hz.frozen 5
  go_simp
  exact h
theorem cel_ne {W : World} {B i : Nat} {u : Value} {p : Addr} (hn : p.block ≠ B) : (W.setCell ⟨B, i, none⟩ u).cell? p = W.cell? p := by
  unfold World.cell?
  rw [Below.heap_setCell W ⟨B, i, none⟩ u p.block hn]
theorem blk6 {W : World} {B : Nat} {t : TypeId} {z0 z1 z2 z3 z4 z5 u0 u1 u2 u3 u4 u5 : Value} (h : Blk W B t [z0, z1, z2, z3, z4, z5]) : Blk ((((((W.setCell ⟨B, 0, none⟩ u0).setCell ⟨B, 1, none⟩ u1).setCell ⟨B, 2, none⟩ u2).setCell ⟨B, 3, none⟩ u3).setCell ⟨B, 4, none⟩ u4).setCell ⟨B, 5, none⟩ u5) B t [u0, u1, u2, u3, u4, u5] :=
  (((((h.set 0 u0).set 1 u1).set 2 u2).set 3 u3).set 4 u4).set 5 u5
theorem bel6 {n : Nat} {w W : World} {B : Nat} {u0 u1 u2 u3 u4 u5 : Value} (h : Below n w W) (hB : n ≤ B) : Below n w ((((((W.setCell ⟨B, 0, none⟩ u0).setCell ⟨B, 1, none⟩ u1).setCell ⟨B, 2, none⟩ u2).setCell ⟨B, 3, none⟩ u3).setCell ⟨B, 4, none⟩ u4).setCell ⟨B, 5, none⟩ u5) :=
  (((((h.setCell hB u0).setCell hB u1).setCell hB u2).setCell hB u3).setCell hB u4).setCell hB u5
/-- What stands while KeysChain runs. -/
structure Fc (w W : World) (A3 : Option Addr) (l : List S49) (A7 : Option Addr) (M : List S49) : Prop where
  b : Below w.heap.size w W
  v : Kd.C k49 W A3 4 l
  m : Kd.C k49 W A7 5 M
theorem Fc.below {w W W' : World} {A3 A7 : Option Addr} {l M : List S49} (h : Fc w W A3 l A7 M) (hb : Below W.heap.size W W') : Fc w W' A3 l A7 M := ⟨h.b.trans (Below.mono hb h.b.size), Kd.C_below h.v hb, Kd.C_below h.m hb⟩
theorem tabD {W : World} (h : TabOk W) : TabOk W.drew := h.below (Below.refl W.heap.size W).drew
theorem tabA {W : World} {o : Obj} (h : TabOk W) : TabOk (W.alloc o) := h.below ((Below.refl W.heap.size W).alloc (Nat.le_refl _) o)
theorem tabAD {W : World} {o : Obj} (h : TabOk W) : TabOk (W.alloc o).drew := tabD (tabA h)
theorem celN {w W : World} {p : Addr} {v : Value} (h : Below w.heap.size w W) (hp : p.block < w.heap.size) (hc : w.cell? p = some v) : W.cell? p = some v := (h.cell hp).trans hc
theorem celD {w W : World} {p : Addr} {v : Value} (h : Below w.heap.size w W) (hp : p.block < w.heap.size) (hc : w.cell? p = some v) : W.drew.cell? p = some v := celN h.drew hp hc
theorem celA {w W : World} {p : Addr} {v : Value} {o : Obj} (h : Below w.heap.size w W) (hp : p.block < w.heap.size) (hc : w.cell? p = some v) : (W.alloc o).cell? p = some v := celN (h.alloc h.size o) hp hc
theorem celAD {w W : World} {p : Addr} {v : Value} {o : Obj} (h : Below w.heap.size w W) (hp : p.block < w.heap.size) (hc : w.cell? p = some v) : (W.alloc o).drew.cell? p = some v := celN (h.alloc h.size o).drew hp hc
theorem vouch_parts {h p on b : Int} {key once : Nat} (h0 : homeV h = true) (h1 : homeV b = true) (h2 : h ≠ b) (h3 : keyV p = true) (h4 : dayV on = true) (k0 : 0 < key) (k1 : key < 1073741789) (o0 : 0 < once) (o1 : once < 1073741789) :
    ∃ a0 a1 : Int, mkV h p on b key once = ⟨h, p, on, b, ⟨a0, a1⟩⟩ ∧ keys_Vouch.f 12 h p on b key once = some (h, p, on, b, a0, a1, 0) := by
  refine ⟨(signV key once [h, p, on]).1, (signV key once [h, p, on]).2.1, rfl, ?_⟩
  rw [vouch_f _ _ _ _ _ _ _ (by omega)]
  unfold vouchV
  rw [vouch_ok (h := h) (p := p) (on := on) (b := b) h0 h1 h2 h3 h4 k0 k1 o0 o1, if_pos rfl]
theorem lit_I1 (W : World) (a : Int) : Kd.C (Kd.int .i64) (W.alloc (Obj.cells #[.int .i64 a] 3)) (some ⟨W.heap.size, 0, none⟩) 1 [a] :=
  C_parts (d := Kd.int .i64) W [a] [[.int .i64 a]] 3 (by simp) ⟨rfl, trivial⟩
theorem lit_argsC (W : World) (b : Int) (a : S28) : ∃ W', (W.alloc (Obj.cells #[.int .i64 b] 3)).alloc (Obj.cells #[.int .i64 a.f0, .int .i64 a.f1, .int .i64 a.f2, .int .i64 a.f3, .int .i64 a.f4.f0, .int .i64 a.f4.f1] 28) = W' ∧
    Kd.C (Kd.int .i64) W' (some ⟨W.heap.size, 0, none⟩) 1 [b] ∧ Kd.C k28 W' (some ⟨W.heap.size + 1, 0, none⟩) 1 [a] ∧ Below W.heap.size W W' := by
  have h1 := lit_I1 W b
  have e : (W.alloc (Obj.cells #[.int .i64 b] 3)).heap.size = W.heap.size + 1 := World.size_alloc _ _
  have b1 := (Below.refl W.heap.size W).alloc (Nat.le_refl _) (Obj.cells #[.int .i64 b] 3)
  generalize W.alloc (Obj.cells #[.int .i64 b] 3) = W1 at *
  have h2 := lit_V1 W1 a
  have b2 := (Below.refl W1.heap.size W1).alloc (Nat.le_refl _) (Obj.cells #[.int .i64 a.f0, .int .i64 a.f1, .int .i64 a.f2, .int .i64 a.f3, .int .i64 a.f4.f0, .int .i64 a.f4.f1] 28)
  rw [e] at h2
  exact ⟨_, rfl, Kd.C_below h1 b2, h2, b1.trans (Below.mono b2 (by omega))⟩
set_option maxHeartbeats 8000000 in
set_option maxRecDepth 100000 in
theorem chain_walk (n0 n1 n2 n3 fresh once day later : Int) (w : World) (hT : TabOk w) (h0 : (Lit.int .u64 n0).wf = true) (h1 : (Lit.int .u64 n1).wf = true) (h2 : (Lit.int .u64 n2).wf = true) (h3 : (Lit.int .u64 n3).wf = true) (h4 : (Lit.int .u64 fresh).wf = true) (h5 : (Lit.int .u64 once).wf = true) (h6 : (Lit.int .u16 day).wf = true) (h7 : (Lit.int .u16 later).wf = true) :
    Calls Tryd.prog 7 #[.agg #[.int .u64 n0, .int .u64 n1, .int .u64 n2, .int .u64 n3], .int .u64 fresh, .int .u64 once, .int .u16 day, .int .u16 later] w fun e w' => e = .returned (.bool true) ∧ Below w.heap.size w w' := by
  have HT := Lib.hid hT
  have HW := Lib.hid (And.intro h0 (And.intro h1 (And.intro h2 (And.intro h3 (And.intro h4 h5)))))
  obtain ⟨d0, d1⟩ := wf_u64' h6
  obtain ⟨d2, d3⟩ := wf_u64' h7
  clear hT h0 h1 h2 h3 h4 h5 h6 h7
  go_enter Tryd.func7, Tryd.ntmps7
  go_wp2_with fail
  obtain ⟨hx1, -, hb1⟩ := Blk.box w 44 [.int .u64 n0, .int .u64 n1, .int .u64 n2, .int .u64 n3]
  rw [show (List.toArray [Value.int .u64 n0, .int .u64 n1, .int .u64 n2, .int .u64 n3]) = #[.int .u64 n0, .int .u64 n1, .int .u64 n2, .int .u64 n3] from rfl] at hx1 hb1
  generalize w.alloc (Obj.cells #[.int .u64 n0, .int .u64 n1, .int .u64 n2, .int .u64 n3] 44) = w1 at *
  have HX1 := Lib.hid hx1
  have HB1 := Lib.hid hb1
  clear hx1 hb1
  refine (cohousinglaw20_head.calls true w1 (TabOk.below HT.out HB1.out) rfl).mono ?_
  rintro e w2 ⟨rfl, hd⟩
  have HX2 := Lib.hid (HX1.out.below hd HX1.out.lt)
  have HB2 := Lib.hid (HB1.out.trans (Below.mono hd HB1.out.size))
  clear hd HX1 HB1
  have c0 := HX2.out.cell 0 _ rfl
  have c1 := HX2.out.cell 1 _ rfl
  have c2 := HX2.out.cell 2 _ rfl
  have c3 := HX2.out.cell 3 _ rfl
  go_wp2_with fail
  clear c0 c1 c2 c3
  refine (vill_calls n0 n1 n2 n3 w2 HW.out.1 HW.out.2.1 HW.out.2.2.1 HW.out.2.2.2.1).mono ?_
  rintro e w3 ⟨v3, rfl, hR3, hd⟩
  have HX3 := Lib.hid (HX2.out.below hd HX2.out.lt)
  have HB3 := Lib.hid (HB2.out.trans (Below.mono hd HB2.out.size))
  obtain ⟨A3, n3', hv3, p3, q3⟩ := Kd.R_reads hR3
  subst hv3
  rw [show (villV n0 n1 n2 n3).length = 4 from rfl] at p3 q3 ⊢
  have HV3 := Lib.hid (And.intro p3 q3)
  clear hd HX2 HB2 hR3 p3 q3
  have e1 : IntKind.i64.wrap day = day := by rw [IntKind.wrap_i64]; omega
  have e2 : Int.tmod day 20000 = day % 20000 := Int.tmod_eq_emod_of_nonneg d0
  have e3 : IntKind.i64.wrap (1 + day % 20000) = 1 + day % 20000 := by rw [IntKind.wrap_i64]; omega
  go_wp2_with fail
  refine (cohousingref08_Secret.calls fresh (sec fresh) w3 (refSecretOf_f _ HW.out.2.2.2.2.1)).mono ?_
  rintro e w4 ⟨rfl, hd⟩
  have HX4 := Lib.hid (HX3.out.below hd.below HX3.out.lt)
  have HB4 := Lib.hid (HB3.out.trans (Below.mono hd.below HB3.out.size))
  have HV4 := Lib.hid (And.intro HV3.out.1 (Kd.C_below HV3.out.2 hd.below))
  clear hd HX3 HB3 HV3
  go_wp2_with fail
  obtain ⟨on, hon⟩ : ∃ o, 1 + day % 20000 = o := ⟨_, rfl⟩
  rw [hon] at e3 ⊢
  have hon2 : 1 ≤ on ∧ on ≤ 20000 := by omega
  clear e1 e2 e3 hon d0 d1
  obtain ⟨after, haf⟩ : ∃ a, on + later % 10000 = a := ⟨_, rfl⟩
  have haf2 : on ≤ after ∧ after ≤ 30000 := by omega
  obtain ⟨q1, ⟨m1, q2⟩, old, j, m2, q3, q4, q5, q6⟩ := chain_core n0 n1 n2 n3 fresh once on after hon2 ⟨haf2.1, by omega⟩
  obtain ⟨a0, a1, r1, r2⟩ := vouch_parts (h := 4) (p := (pub (sec fresh) : Int)) (on := on) (b := 1) (key := sec n0) (once := sec once) rfl rfl (by decide) (keyV_sec _) (dayV_iff.2 (by omega)) (sec_lt _).1 (sec_lt _).2 (sec_lt _).1 (sec_lt _).2
  obtain ⟨b0, b1, r3, r4⟩ := vouch_parts (h := 2) (p := 64) (on := after) (b := 4) (key := sec fresh) (once := sec once) rfl rfl (by decide) key_64 (dayV_iff.2 (by omega)) (sec_lt _).1 (sec_lt _).2 (sec_lt _).1 (sec_lt _).2
  obtain ⟨z0, z1, r5, r6⟩ := vouch_parts (h := 2) (p := 64) (on := on - 1) (b := 4) (key := sec fresh) (once := sec once) rfl rfl (by decide) key_64 (dayV_iff.2 (by omega)) (sec_lt _).1 (sec_lt _).2 (sec_lt _).1 (sec_lt _).2
  rw [r1] at q1
  rw [r3] at q2
  rw [r5] at q3 q4
  have g1 : cohousinglaw20_pub.f 40 (sec fresh : Int) = some (pub (sec fresh) : Int) := pub_f _ (sec_lt fresh).2 40 (by omega)
  have g2 : cohousingref08_Secret.f n0 = some (sec n0 : Int) := refSecretOf_f _ HW.out.1
  have g3 : cohousingref08_Secret.f once = some (sec once : Int) := refSecretOf_f _ HW.out.2.2.2.2.2
  obtain ⟨pk, hpk⟩ : ∃ p : Int, (pub (sec fresh) : Int) = p := ⟨_, rfl⟩
  obtain ⟨p3, hp3⟩ : ∃ p : Int, (pub (sec n3) : Int) = p := ⟨_, rfl⟩
  obtain ⟨sf, hsf⟩ : ∃ s : Int, (sec fresh : Int) = s := ⟨_, rfl⟩
  obtain ⟨s0, hs0⟩ : ∃ s : Int, (sec n0 : Int) = s := ⟨_, rfl⟩
  obtain ⟨so, hso⟩ : ∃ s : Int, (sec once : Int) = s := ⟨_, rfl⟩
  rw [hpk] at q1 q2 q4 r2 g1
  rw [hp3] at q3
  rw [hsf] at r4 r6 g1 ⊢
  rw [hs0] at r2 g2
  rw [hso] at r2 r4 r6 g3
  have HQ := Lib.hid (And.intro q1 (And.intro q2 (And.intro q3 (And.intro q4 (And.intro q5 q6)))))
  have HF := Lib.hid (And.intro r2 (And.intro r4 r6))
  have HN := Lib.hid (And.intro hon2 (And.intro haf2 (And.intro haf (And.intro d2 d3))))
  have HG := Lib.hid (And.intro g1 (And.intro g2 (And.intro g3 hp3)))
  clear q1 q2 q3 q4 q5 q6 r1 r2 r3 r4 r5 r6 hon2 haf2 haf d2 d3 g1 g2 g3 hpk hp3 hsf hs0 hso
  have c0 := HX4.out.cell 0 _ rfl
  have HS := Lib.hid c0
  go_upto_region 5 with (fail)
  go_cut [15, 16] (fun p e wx => e = .int .i64 0 ∧ ∃ bx, p = .pointer (some ⟨bx, 0, none⟩) ∧ Blk wx bx 28 [.int .i64 4, .int .i64 pk, .int .i64 on, .int .i64 1, .int .i64 a0, .int .i64 a1] ∧ Below w4.heap.size w4 wx)
  case first =>
    have hB0 := Below.refl w4.heap.size w4
    have hp0 : (⟨w.heap.size, 0, none⟩ : Addr).block < w4.heap.size := HX4.out.lt
    go_region_held3 (fun W => W.cell? ⟨w.heap.size, 0, none⟩ = some (.int .u64 n0))
      (first | (have hn : (⟨w.heap.size, 0, none⟩ : Addr).block ≠ w4.heap.size := Nat.ne_of_lt (Nat.lt_of_lt_of_le hp0 hB0.size); rw [cel_ne hn, cel_ne hn, cel_ne hn, cel_ne hn, cel_ne hn, cel_ne hn]; exact celN hBd hp0 HS.out) | (have hn : (⟨w.heap.size, 0, none⟩ : Addr).block ≠ wa.heap.size := Nat.ne_of_lt (Nat.lt_of_lt_of_le hp0 hBa.size); rw [cel_ne hn, cel_ne hn, cel_ne hn, cel_ne hn, cel_ne hn, cel_ne hn]; exact celN hBd hp0 HS.out) | (have hn : (⟨w.heap.size, 0, none⟩ : Addr).block ≠ wb.heap.size := Nat.ne_of_lt (Nat.lt_of_lt_of_le hp0 hBb.size); rw [cel_ne hn, cel_ne hn, cel_ne hn, cel_ne hn, cel_ne hn, cel_ne hn]; exact celN hBd hp0 HS.out) | (have hn : (⟨w.heap.size, 0, none⟩ : Addr).block ≠ wc.heap.size := Nat.ne_of_lt (Nat.lt_of_lt_of_le hp0 hBc.size); rw [cel_ne hn, cel_ne hn, cel_ne hn, cel_ne hn, cel_ne hn, cel_ne hn]; exact celN hBd hp0 HS.out) | (with_reducible exact celD hB0 hp0 HS.out) | (with_reducible exact celAD hB0 hp0 HS.out) | (with_reducible exact celN hBa hp0 HS.out) | (with_reducible exact celA hBa hp0 HS.out) | (with_reducible exact celN hBb hp0 HS.out) | (with_reducible exact celA hBb hp0 HS.out) | (with_reducible exact celN hBc hp0 HS.out) | (with_reducible exact celA hBc hp0 HS.out) | (with_reducible exact celN hBd hp0 HS.out) | (with_reducible exact celA hBd hp0 HS.out))
      (first
        | (go_at_call 20; refine (cohousinglaw20_pub.calls 40 sf pk _ HG.out.1).mono ?_; rintro e wa ⟨rfl, hda⟩; have hBa : Below w4.heap.size w4 wa := (by first | (with_reducible exact belN hB0 hda.below) | (with_reducible exact belD hB0 hda.below) | (with_reducible exact belA hB0 hda.below) | (with_reducible exact belAD hB0 hda.below)); (try (with_reducible have hz := Blk.below hz hda.below hz.lt)); (try (with_reducible have hz := blk_after hda.below)); (try (with_reducible have hz := blk_afterD hda.below)))
        | (go_at_call 21; refine (cohousingref08_Secret.calls n0 s0 _ HG.out.2.1).mono ?_; rintro e wb ⟨rfl, hdb⟩; have hBb : Below w4.heap.size w4 wb := (by first | (with_reducible exact belN hBa hdb.below) | (with_reducible exact belD hBa hdb.below) | (with_reducible exact belA hBa hdb.below) | (with_reducible exact belAD hBa hdb.below)); (try (with_reducible have hz := Blk.below hz hdb.below hz.lt)); (try (with_reducible have hz := blk_after hdb.below)); (try (with_reducible have hz := blk_afterD hdb.below)))
        | (go_at_call 21; refine (cohousingref08_Secret.calls once so _ HG.out.2.2.1).mono ?_; rintro e wc ⟨rfl, hdc⟩; have hBc : Below w4.heap.size w4 wc := (by first | (with_reducible exact belN hBb hdc.below) | (with_reducible exact belD hBb hdc.below) | (with_reducible exact belA hBb hdc.below) | (with_reducible exact belAD hBb hdc.below)); (try (with_reducible have hz := Blk.below hz hdc.below hz.lt)); (try (with_reducible have hz := blk_after hdc.below)); (try (with_reducible have hz := blk_afterD hdc.below)); have tc : TabOk wc := TabOk.below HT.out (HB4.out.trans (Below.mono hBc HB4.out.size)))
        | (go_at_call 14; refine (keys_Vouch.calls 12 4 pk on 1 s0 so 4 pk on 1 a0 a1 0 _ (by first | (with_reducible exact tc) | (with_reducible exact tabD tc) | (with_reducible exact tabA tc) | (with_reducible exact tabAD tc)) HF.out.1).mono ?_; rintro e wd ⟨rfl, hdd⟩; have hBd : Below w4.heap.size w4 wd := (by first | (with_reducible exact belN hBc hdd) | (with_reducible exact belD hBc hdd) | (with_reducible exact belA hBc hdd) | (with_reducible exact belAD hBc hdd)); (try (with_reducible have hz := Blk.below hz hdd hz.lt)); (try (with_reducible have hz := blk_after hdd)); (try (with_reducible have hz := blk_afterD hdd)); (try (have z0 := hz.cell 0 _ rfl; have z1 := hz.cell 1 _ rfl; have z2 := hz.cell 2 _ rfl; have z3 := hz.cell 3 _ rfl; have z4 := hz.cell 4 _ rfl; have z5 := hz.cell 5 _ rfl; have y0 := hz.frozen 0; have y1 := hz.frozen 1; have y2 := hz.frozen 2; have y3 := hz.frozen 3; have y4 := hz.frozen 4; have y5 := hz.frozen 5))))
    all_goals
      go_wp2_with fail
      go_meet
      refine ⟨rfl, _, rfl, ?_, ?_⟩
      · first | (with_reducible exact (Blk.box wd 28 [.int .i64 4, .int .i64 pk, .int .i64 on, .int .i64 1, .int .i64 a0, .int .i64 a1]).1) | (with_reducible exact blk6 hz)
      · first | (with_reducible exact Below.alloc hBd hBd.size _) | (with_reducible exact bel6 hBd hBc.size) | (with_reducible exact bel6 hBd hBb.size) | (with_reducible exact bel6 hBd hBa.size) | (with_reducible exact bel6 hBd (Nat.le_refl _))
  case rest =>
  obtain ⟨rfl, bx, rfl, hY, hBx⟩ := hcut
  rename World => w5
  have HB5 := Lib.hid (HB4.out.trans (Below.mono hBx HB4.out.size))
  have HV5 := Lib.hid (And.intro HV4.out.1 (Kd.C_below HV4.out.2 hBx))
  have HX5 := Lib.hid hY
  clear hY hBx HB4 HV4 HX4 c0 HS
  obtain ⟨M, hM⟩ : ∃ M, insK (villV n0 n1 n2 n3) ⟨4, pk, on⟩ = M := ⟨_, rfl⟩
  obtain ⟨l, hl⟩ : ∃ l, villV n0 n1 n2 n3 = l := ⟨_, rfl⟩
  have HML := Lib.hid (show M.length = 5 ∧ l.length = 4 by rw [← hM, ← hl, insK_len, vill_len]; exact ⟨rfl, rfl⟩)
  have HL := Lib.hid (show (rd_T49 l 3).f1 = p3 by rw [← hl, ← HG.out.2.2.2]; rfl)
  rw [hM, hl] at HQ
  rw [hl] at HV5
  clear hM hl
  have c0 : ∀ o, (w5.alloc o).cell? ⟨bx, 0, none⟩ = _ := fun o => (HX5.out.alloc o).cell 0 _ rfl
  have c1 : ∀ o, (w5.alloc o).cell? ⟨bx, 1, none⟩ = _ := fun o => (HX5.out.alloc o).cell 1 _ rfl
  have c2 : ∀ o, (w5.alloc o).cell? ⟨bx, 2, none⟩ = _ := fun o => (HX5.out.alloc o).cell 2 _ rfl
  have c3 : ∀ o, (w5.alloc o).cell? ⟨bx, 3, none⟩ = _ := fun o => (HX5.out.alloc o).cell 3 _ rfl
  have c4 : ∀ o, (w5.alloc o).cell? ⟨bx, 4, none⟩ = _ := fun o => (HX5.out.alloc o).cell 4 _ rfl
  have c5 : ∀ o, (w5.alloc o).cell? ⟨bx, 5, none⟩ = _ := fun o => (HX5.out.alloc o).cell 5 _ rfl
  go_wp2_with fail
  clear c0 c1 c2 c3 c4 c5
  obtain ⟨w6, hw6, hi6, hv6, hb6⟩ := lit_argsC w5 1 (⟨4, pk, on, 1, ⟨a0, a1⟩⟩ : S28)
  simp only at hw6
  rw [hw6]
  have HB6 := Lib.hid (HB5.out.trans (Below.mono hb6 HB5.out.size))
  have HV6 := Lib.hid (And.intro HV5.out.1 (Kd.C_below HV5.out.2 hb6))
  have hlen := HML.out.2
  have hc := keys_Renew.calls A3 n3' l (some ⟨w5.heap.size, 0, none⟩) 1 [1] 1 (some ⟨w5.heap.size + 1, 0, none⟩) 1 [(⟨4, pk, on, 1, ⟨a0, a1⟩⟩ : S28)] M 0 w6 (by rw [hlen]; exact HV6.out.2) (by rw [hlen]; exact HV6.out.1) hi6 (Nat.le_refl _) hv6 (Nat.le_refl _) (TabOk.below HT.out HB6.out) (congrArg some HQ.out.1)
  simp only [hlen] at hc
  refine hc.mono ?_
  rintro e w7 ⟨v, rfl, hR, hd⟩
  obtain ⟨A7, n7, rfl, p7, q7⟩ := Kd.R_reads hR
  have hml := HML.out.1
  rw [hml] at p7 q7 ⊢
  have HF7 := Lib.hid (show Fc w w7 A3 l A7 M from ⟨HB6.out.trans (Below.mono hd HB6.out.size), Kd.C_below HV6.out.2 hd, q7⟩)
  have HC := Lib.hid (And.intro HV6.out.1 p7)
  clear hc hw6 hi6 hv6 hb6 hR hd HB5 HV5 HX5 HB6 HV6 p7 q7 hlen hml
  obtain ⟨d2, d3⟩ := HN.out.2.2.2
  have e1 : IntKind.i64.wrap later = later := by rw [IntKind.wrap_i64]; omega
  have e2 : Int.tmod later 10000 = later % 10000 := Int.tmod_eq_emod_of_nonneg d2
  have e3 : IntKind.i64.wrap (on + later % 10000) = after := by have h1 := HN.out.2.2.1; have h2 := HN.out.2.1; have h3 := HN.out.1; rw [IntKind.wrap_i64]; omega
  go_wp2_with fail
  clear e1 e2 e3 d2 d3
  refine (cohousingref08_Secret.calls once so w7 HG.out.2.2.1).mono ?_
  rintro e w8 ⟨rfl, hd⟩
  have HF8 := Lib.hid (HF7.out.below hd.below)
  clear hd HF7
  go_wp2_with fail
  refine (keys_Vouch.calls 12 2 64 after 4 sf so 2 64 after 4 b0 b1 0 w8 (TabOk.below HT.out HF8.out.b) HF.out.2.1).mono ?_
  rintro e w9 ⟨rfl, hd⟩
  have HF9 := Lib.hid (HF8.out.below hd)
  clear hd HF8
  go_wp2_with fail
  obtain ⟨hx, hs, hb⟩ := Blk.box w9 28 [.int .i64 2, .int .i64 64, .int .i64 after, .int .i64 4, .int .i64 b0, .int .i64 b1]
  rw [show (List.toArray [Value.int .i64 2, .int .i64 64, .int .i64 after, .int .i64 4, .int .i64 b0, .int .i64 b1]) = #[.int .i64 2, .int .i64 64, .int .i64 after, .int .i64 4, .int .i64 b0, .int .i64 b1] from rfl] at hx hs hb
  generalize w9.alloc (Obj.cells #[.int .i64 2, .int .i64 64, .int .i64 after, .int .i64 4, .int .i64 b0, .int .i64 b1] 28) = w10 at *
  have HF10 := Lib.hid (HF9.out.below hb)
  have HY10 := Lib.hid hx
  clear hx hs hb HF9
  generalize w9.heap.size = by_ at *
  obtain ⟨om, hom⟩ : ∃ o, on - 1 = o := ⟨_, rfl⟩
  have HOM := Lib.hid hom
  rw [hom] at HQ HF
  have e4 : wrap64 (on - 1) = om := by have := HN.out.1; unfold wrap64; omega
  clear hom
  go_wp2_with fail
  refine (cohousingref08_Secret.calls once so w10 HG.out.2.2.1).mono ?_
  rintro e w11 ⟨rfl, hd⟩
  have HF11 := Lib.hid (HF10.out.below hd.below)
  have HY11 := Lib.hid (HY10.out.below hd.below HY10.out.lt)
  clear hd HF10 HY10
  go_wp2_with fail
  try rw [e4]
  clear e4
  refine (keys_Vouch.calls 12 2 64 om 4 sf so 2 64 om 4 z0 z1 0 w11 (TabOk.below HT.out HF11.out.b) HF.out.2.2).mono ?_
  rintro e w12 ⟨rfl, hd⟩
  have HF12 := Lib.hid (HF11.out.below hd)
  have HY12 := Lib.hid (HY11.out.below hd HY11.out.lt)
  clear hd HF11 HY11
  have c0 : ∀ o o', ((w12.alloc o).alloc o').cell? ⟨by_, 0, none⟩ = _ := fun o o' => ((HY12.out.alloc o).alloc o').cell 0 _ rfl
  have c1 : ∀ o o', ((w12.alloc o).alloc o').cell? ⟨by_, 1, none⟩ = _ := fun o o' => ((HY12.out.alloc o).alloc o').cell 1 _ rfl
  have c2 : ∀ o o', ((w12.alloc o).alloc o').cell? ⟨by_, 2, none⟩ = _ := fun o o' => ((HY12.out.alloc o).alloc o').cell 2 _ rfl
  have c3 : ∀ o o', ((w12.alloc o).alloc o').cell? ⟨by_, 3, none⟩ = _ := fun o o' => ((HY12.out.alloc o).alloc o').cell 3 _ rfl
  have c4 : ∀ o o', ((w12.alloc o).alloc o').cell? ⟨by_, 4, none⟩ = _ := fun o o' => ((HY12.out.alloc o).alloc o').cell 4 _ rfl
  have c5 : ∀ o o', ((w12.alloc o).alloc o').cell? ⟨by_, 5, none⟩ = _ := fun o o' => ((HY12.out.alloc o).alloc o').cell 5 _ rfl
  go_wp2_with fail
  obtain ⟨hx, hs, hb⟩ := Blk.box w12 28 [.int .i64 2, .int .i64 64, .int .i64 om, .int .i64 4, .int .i64 z0, .int .i64 z1]
  rw [show (List.toArray [Value.int .i64 2, .int .i64 64, .int .i64 om, .int .i64 4, .int .i64 z0, .int .i64 z1]) = #[.int .i64 2, .int .i64 64, .int .i64 om, .int .i64 4, .int .i64 z0, .int .i64 z1] from rfl] at hx hs hb
  generalize w12.alloc (Obj.cells #[.int .i64 2, .int .i64 64, .int .i64 om, .int .i64 4, .int .i64 z0, .int .i64 z1] 28) = w13 at *
  have HF13 := Lib.hid (HF12.out.below hb)
  have HY13 := Lib.hid (HY12.out.below hb HY12.out.lt)
  have HZ13 := Lib.hid hx
  have HS13 := Lib.hid hs
  clear hx hs hb HF12 HY12
  generalize w12.heap.size = bz at *
  clear c0 c1 c2 c3 c4 c5
  obtain ⟨w14, hw14, hi14, hv14, hb14⟩ := lit_argsC w13 4 (⟨2, 64, after, 4, ⟨b0, b1⟩⟩ : S28)
  simp only at hw14
  rw [hw14]
  rw [HS13.out] at hi14 hv14
  have HF14 := Lib.hid (HF13.out.below hb14)
  have HZ14 := Lib.hid (HZ13.out.below hb14 HZ13.out.lt)
  have hml := HML.out.1
  have hc := keys_Renew.calls A7 n7 M (some ⟨bz + 1, 0, none⟩) 1 [4] 1 (some ⟨bz + 1 + 1, 0, none⟩) 1 [(⟨2, 64, after, 4, ⟨b0, b1⟩⟩ : S28)] m1 0 w14 (by rw [hml]; exact HF14.out.m) (by rw [hml]; exact HC.out.2) hi14 (Nat.le_refl _) hv14 (Nat.le_refl _) (TabOk.below HT.out HF14.out.b) (congrArg some HQ.out.2.1)
  simp only [hml] at hc
  refine hc.mono ?_
  rintro e w15 ⟨v15, rfl, hR, hd⟩
  have HF15 := Lib.hid (HF14.out.below hd)
  have HZ15 := Lib.hid (HZ14.out.below hd HZ14.out.lt)
  clear hc hw14 hi14 hv14 hb14 hR hd HF13 HY13 HZ13 HF14 HZ14 hml
  have c0 : ∀ o, (w15.alloc o).cell? ⟨bz, 0, none⟩ = _ := fun o => (HZ15.out.alloc o).cell 0 _ rfl
  have c1 : ∀ o, (w15.alloc o).cell? ⟨bz, 1, none⟩ = _ := fun o => (HZ15.out.alloc o).cell 1 _ rfl
  have c2 : ∀ o, (w15.alloc o).cell? ⟨bz, 2, none⟩ = _ := fun o => (HZ15.out.alloc o).cell 2 _ rfl
  have c3 : ∀ o, (w15.alloc o).cell? ⟨bz, 3, none⟩ = _ := fun o => (HZ15.out.alloc o).cell 3 _ rfl
  have c4 : ∀ o, (w15.alloc o).cell? ⟨bz, 4, none⟩ = _ := fun o => (HZ15.out.alloc o).cell 4 _ rfl
  have c5 : ∀ o, (w15.alloc o).cell? ⟨bz, 5, none⟩ = _ := fun o => (HZ15.out.alloc o).cell 5 _ rfl
  go_wp2_with fail
  clear c0 c1 c2 c3 c4 c5
  obtain ⟨w16, hw16, hi16, hv16, hb16⟩ := lit_argsC w15 4 (⟨2, 64, om, 4, ⟨z0, z1⟩⟩ : S28)
  simp only at hw16
  rw [hw16]
  have HF16 := Lib.hid (HF15.out.below hb16)
  have HZ16 := Lib.hid (HZ15.out.below hb16 HZ15.out.lt)
  have hml := HML.out.1
  have hc := keys_Renew.calls A7 n7 M (some ⟨w15.heap.size, 0, none⟩) 1 [4] 1 (some ⟨w15.heap.size + 1, 0, none⟩) 1 [(⟨2, 64, om, 4, ⟨z0, z1⟩⟩ : S28)] m2 j w16 (by rw [hml]; exact HF16.out.m) (by rw [hml]; exact HC.out.2) hi16 (Nat.le_refl _) hv16 (Nat.le_refl _) (TabOk.below HT.out HF16.out.b) (congrArg some HQ.out.2.2.2.1)
  simp only [hml] at hc
  refine hc.mono ?_
  rintro e w17 ⟨v17, rfl, hR, hd⟩
  have HF17 := Lib.hid (HF16.out.below hd)
  have HZ17 := Lib.hid (HZ16.out.below hd HZ16.out.lt)
  clear hc hw16 hi16 hv16 hb16 hR hd HF15 HZ15 HF16 HZ16 hml
  have hlen := HML.out.2
  obtain ⟨ad, eA, l0, l1, l2⟩ := at_T49 HF17.out.v 3 (by omega) (by omega)
  subst eA
  rw [show Int.toNat 3 * 3 = 9 from rfl, HL.out] at l1
  have y4 := HZ17.out.cell 4 _ rfl
  have y5 := HZ17.out.cell 5 _ rfl
  replace l1 : w17.cell? ⟨ad.block, ad.off + 9 + 1, none⟩ = some (.int .i64 p3) := l1
  clear l0 l2
  have HVE := Lib.hid (show cohousingref08_Verify.f 30000 p3 z0 z1 [2, 64, om] = some (old, 0) by rw [refVerify_f _ _ _ _ (msg_key (h := 2) (p := 64) rfl key_64 (dayV_iff.2 (by have := HN.out.1; have := HOM.out; omega))) _ (Nat.le_refl _), HQ.out.2.2.1])
  have HS7 := Lib.hid (And.intro l1 (And.intro y4 y5))
  have e4 : IntKind.i64.wrap (on - 1) = om := by have := HN.out.1; have := HOM.out; rw [IntKind.wrap_i64]; omega
  go_wp2_with fail
  go_region_held3 (fun W => W.cell? ⟨ad.block, ad.off + 9 + 1, none⟩ = some (.int .i64 p3) ∧ W.cell? ⟨bz, 4, none⟩ = some (.int .i64 z0) ∧ W.cell? ⟨bz, 5, none⟩ = some (.int .i64 z1))
    (first | go_keep | exact ⟨pw_cell_below hw8 HS7.out.1, pw_cell_below hw8 HS7.out.2.1, pw_cell_below hw8 HS7.out.2.2⟩)
    (first | (go_at_call 22; refine (cohousingref08_Verify.calls 30000 p3 z0 z1 _ 3 [2, 64, om] old 0 _ (by first | exact C_blk3 (Blk.box w17 3 [.int .i64 2, .int .i64 64, .int .i64 om]).1 | exact C_blk3 (Blk.box w17 3 [.int .i64 2, .int .i64 64, .int .i64 om]).1.drew | exact C_blk3 (Blk.box w17.drew 3 [.int .i64 2, .int .i64 64, .int .i64 om]).1) (Nat.le_refl _) HVE.out).mono ?_; rintro e w8 ⟨rfl, hd8⟩; have hw8 : Below w17.heap.size w17 w8 := Below.trans (by repeat (first | exact Below.refl _ _ | refine Below.alloc ?_ (Nat.le_refl _) _ | refine Below.drew ?_)) (Below.mono hd8 (by first | exact Nat.le_refl _ | simp))))
  all_goals
    have HB8 := Lib.hid (HF17.out.b.trans (Below.mono hw8 HF17.out.b.size))
    clear hd8 hw8 l1 y4 y5 e4 HF17 HZ17 HS7 HVE hlen
    have hq := HQ.out.2.2.2.2
    have h0 := HN.out.1.1
    by_cases h1 : on = 1
    · have hj : j = 6 := hq.1 h1
      subst h1
      subst hj
      clear hq h0
      go_wp2_with fail
      go_ret
      exact ⟨by first | rfl | simp, HB8.out⟩
    · have h2 : 1 < on := by omega
      have hj : j = 0 ↔ old = true := hq.2 h2
      clear hq h0
      cases old with
      | true =>
        have hj0 : j = 0 := hj.2 rfl
        subst hj0
        clear hj
        go_wp2_with fail
        go_ret
        exact ⟨by first | rfl | simp, HB8.out⟩
      | false =>
        have hj0 : ¬ j = 0 := fun h => by cases hj.1 h
        have hj1 : (j == 0) = false := beq_eq_false_iff_ne.2 hj0
        clear hj
        go_wp2_with fail
        go_ret
        exact ⟨by first | rfl | simp, HB8.out⟩
end Go.Proofs.YtcnkenknbmmglaaDoor.P
