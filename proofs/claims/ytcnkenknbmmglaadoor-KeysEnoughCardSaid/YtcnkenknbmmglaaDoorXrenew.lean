/- keys.Renew. -/
import Derived.Test.YtcnkenknbmmglaaDoorPk1
import Derived.Deep.RegionHeld3
set_option linter.unusedSimpArgs false
set_option linter.unusedVariables false
namespace Go.Proofs.YtcnkenknbmmglaaDoor.P
open Go Go.RowKit Go.Proofs.YtcnkenknbmmglaaDoorW.PrintWords Go.Proofs.YtcnkenknbmmglaaDoorW.PrintLast Go.Proofs.YtcnkenknbmmglaaDoorW.PrintMore Go.Proofs.YtcnkenknbmmglaaDoor.Ord

/-- What stands still until the map is there. -/
structure Rf (w W : World) (A0 : Option Addr) (c0 : Nat) (l : List S49) (A1 : Option Addr) (c1 : Nat) (ns : List Int) : Prop where
  b : Below w.heap.size w W
  kl : Blk W w.heap.size 22 [.slice A0 l.length c0]
  kn : Blk W (w.heap.size + 1) 23 [.slice A1 ns.length c1]
theorem Rf.below {w W W' : World} {A0 : Option Addr} {c0 : Nat} {l : List S49} {A1 : Option Addr} {c1 : Nat} {ns : List Int} (h : Rf w W A0 c0 l A1 c1 ns) (hb : Below W.heap.size W W') : Rf w W' A0 c0 l A1 c1 ns :=
  ⟨h.b.trans (Below.mono hb h.b.size), h.kl.below hb h.kl.lt, h.kn.below hb h.kn.lt⟩
theorem formed_len {ns : List Int} {need : Int} {v : List S28} (h : formedV ns need v = true) : ns.length ≤ 8 ∧ 1 ≤ need ∧ need ≤ 8 ∧ 1 ≤ v.length ∧ v.length ≤ 16 := by
  simp only [formedV, Bool.and_eq_true, decide_eq_true_eq] at h
  exact ⟨h.1.1, h.1.2.1, h.1.2.2.1, h.1.2.2.2.1, h.1.2.2.2.2⟩
theorem formed_says {ns : List Int} {need : Int} {v : List S28} (h : formedV ns need v = true) : ascB ns 0 = true ∧ saysB ns v (rd_T28 v 0) = true := by
  simp only [formedV, Bool.and_eq_true] at h
  exact h.2
theorem says_new {ns : List Int} {v : List S28} (h : saysB ns v (rd_T28 v 0) = true) : homeV (newK v).f0 = true ∧ keyV (newK v).f1 = true ∧ dayV (newK v).f2 = true := by
  simp only [saysB, Bool.and_eq_true] at h
  exact ⟨h.1, h.2.1, h.2.2.1⟩
theorem ok_new {x : S49} (h0 : homeV x.f0 = true) (h1 : keyV x.f1 = true) (h2 : dayV x.f2 = true) : ∀ z ∈ [x.f0, x.f1, x.f2], okInt z = true := by
  simp only [homeV, dayV, keyV, Bool.and_eq_true, decide_eq_true_eq] at h0 h1 h2
  have hm := memB_lt h1.2
  intro z hz
  simp only [List.mem_cons, List.not_mem_nil, or_false] at hz
  rcases hz with rfl | rfl | rfl <;> exact okInt_of (by omega) (by omega)
theorem run_len_set {P : Program} {t k e : TypeId} {w : World} {m : Nat} {ks : List Int} (ht : P.underlying t = some (.map k e)) (h : IntSet w m ks) (ty : TypeId) : (Builtin.len_ #[t] ty #[.map (some m)]).run P w = .ok (.int .i64 ks.length) w := by
  obtain ⟨es, clk, hb, he⟩ := h
  have e1 : es.size = ks.length := by simpa using congrArg List.length he
  simp [Builtin.len_, run_underlying ht, MapKept.run_getObj_map hb, goInt, Result.andThen, e1]
/-- What stands still while the attestations are looked at. -/
structure Rw (w W : World) (bx bw m : Nat) (ks : List Int) (A0 : Option Addr) (c0 : Nat) (l : List S49) (A1 : Option Addr) (c1 : Nat) (ns : List Int) (x : S49) : Prop where
  b : Below w.heap.size w W
  kl : Blk W w.heap.size 22 [.slice A0 l.length c0]
  kn : Blk W (w.heap.size + 1) 23 [.slice A1 ns.length c1]
  kx : Blk W bx 49 (cK x)
  kw : Blk W bw 64 [.map (some m)]
  s : IntSet W m ks
  d : w.heap.size + 1 < m ∧ bx < m ∧ m < bw
theorem Rw.below {w W W' : World} {bx bw m : Nat} {ks : List Int} {A0 : Option Addr} {c0 : Nat} {l : List S49} {A1 : Option Addr} {c1 : Nat} {ns : List Int} {x : S49} (h : Rw w W bx bw m ks A0 c0 l A1 c1 ns x) (hb : Below W.heap.size W W') : Rw w W' bx bw m ks A0 c0 l A1 c1 ns x :=
  ⟨h.b.trans (Below.mono hb h.b.size), h.kl.below hb h.kl.lt, h.kn.below hb h.kn.lt, h.kx.below hb h.kx.lt, h.kw.below hb h.kw.lt, h.s.same (hb.block _ h.s.lt), h.d⟩
theorem Rw.grown {w W W' : World} {bx bw m : Nat} {ks ks' : List Int} {A0 : Option Addr} {c0 : Nat} {l : List S49} {A1 : Option Addr} {c1 : Nat} {ns : List Int} {x : S49} (h : Rw w W bx bw m ks A0 c0 l A1 c1 ns x) (hg : W.grownBy W' (some m)) (hs : IntSet W' m ks') : Rw w W' bx bw m ks' A0 c0 l A1 c1 ns x := by
  obtain ⟨d0, d1, d2⟩ := h.d
  have ne : ∀ k, k ≠ m → some k ≠ some m := fun k hk e => hk (Option.some.inj e)
  exact ⟨h.b.grown hg h.b.size (fun k hk => by cases hk; omega), h.kl.grown hg (ne _ (by omega)), h.kn.grown hg (ne _ (by omega)), h.kx.grown hg (ne _ (by omega)), h.kw.grown hg (ne _ (by omega)), hs, h.d⟩
theorem Rw.ren {w W : World} {bx bw m : Nat} {ks : List Int} {A0 : Option Addr} {c0 : Nat} {l : List S49} {A1 : Option Addr} {c1 : Nat} {ns : List Int} {x : S49} (h : Rw w W bx bw m ks A0 c0 l A1 c1 ns x) (hr0 : Kd.C k49 w A0 l.length l) (hr1 : Kd.C (Kd.int .i64) w A1 ns.length ns) (hT : TabOk w) : Ren W w.heap.size bx (w.heap.size + 1) bw m A0 c0 l A1 c1 ns x :=
  ⟨h.kl, h.kx, h.kn, h.kw, Kd.C_below hr0 h.b, Kd.C_below hr1 h.b, hT.below h.b⟩
theorem allTry_ne (l : List S49) (ns : List Int) (x : S49) {y : S28} (v : List S28) (ks : List Int) (h : ¬ tryV l ns x y = 0) : allTry l ns x (y :: v) ks = (ks, tryV l ns x y) := by rw [allTry, if_neg h]
def SK (bl bx : Nat) (A0 : Option Addr) (c0 : Nat) (l : List S49) (x : S49) (W : World) : Prop :=
  W.cell? ⟨bl, 0, none⟩ = some (.slice A0 l.length c0) ∧ W.cell? ⟨bx, 0, none⟩ = some (.int .i64 x.f0) ∧ W.cell? ⟨bx, 1, none⟩ = some (.int .i64 x.f1) ∧ W.cell? ⟨bx, 2, none⟩ = some (.int .i64 x.f2)
theorem keepK {bl bx : Nat} {A0 : Option Addr} {c0 : Nat} {l : List S49} {x : S49} {w9 W : World} (h : SK bl bx A0 c0 l x w9) (hb : Below w9.heap.size w9 W) : SK bl bx A0 c0 l x W :=
  ⟨pw_cell_below hb h.1, pw_cell_below hb h.2.1, pw_cell_below hb h.2.2.1, pw_cell_below hb h.2.2.2⟩
/-- Insert behind clone: the variadic's box is laid behind the clone, or ahead of it. -/
theorem insA {w9 w10 : World} {v10 : Value} {l : List S49} (at' : Nat) (x : S49) (hR : Kd.R k49 49 w10 w9.heap.size (fun _ => True) v10 l) (hb : Below w9.heap.size w9 w10) (hat : at' ≤ l.length) (hn : l.length ≤ 1000) :
    Calls Tryd.prog 39 #[v10, .int .i64 (at' : Int), .slice (some ⟨w10.heap.size, 0, none⟩) 1 1] (w10.alloc (.cells #[.int .i64 x.f0, .int .i64 x.f1, .int .i64 x.f2] 49)) fun e w' =>
      ∃ v', e = .returned v' ∧ Kd.R k49 49 w' w9.heap.size (fun _ => True) v' (l.take at' ++ x :: l.drop at') ∧ Below w9.heap.size w9 w' := by
  have b := Blk.box w10 49 (cK x)
  have hs := hb.size
  have hr := Kd.R_bound hR
  refine (insert_calls v10 l at' x _ w9.heap.size w10.heap.size (Kd.R_below hR b.2.2) (by have := b.2.1; rw [show (cK x).toArray = #[.int .i64 x.f0, .int .i64 x.f1, .int .i64 x.f2] from rfl] at this; omega) hat (by omega) b.1 (fun e => ?_)).mono ?_
  · have := (hr.1 _ e.symm).2.2.1
    omega
  · rintro e w' ⟨v', rfl, h1, h2⟩
    exact ⟨v', rfl, h1, (hb.trans (Below.mono b.2.2 hs)).trans h2⟩
theorem insB {w9 w10 W : World} {v10 : Value} {l : List S49} (at' : Nat) (x : S49) (hWb : Below w9.heap.size w9 W) (hB : Blk W w9.heap.size 49 (cK x)) (hR : Kd.R k49 49 w10 W.heap.size (fun _ => True) v10 l) (hb : Below W.heap.size W w10) (hat : at' ≤ l.length) (hn : l.length ≤ 1000) :
    Calls Tryd.prog 39 #[v10, .int .i64 (at' : Int), .slice (some ⟨w9.heap.size, 0, none⟩) 1 1] w10 fun e w' =>
      ∃ v', e = .returned v' ∧ Kd.R k49 49 w' w9.heap.size (fun _ => True) v' (l.take at' ++ x :: l.drop at') ∧ Below w9.heap.size w9 w' := by
  have hlt := hB.lt
  have hb' : Below w9.heap.size w9 w10 := hWb.trans (Below.mono hb (by omega))
  have hs := hb.size
  have hr := Kd.R_bound hR
  refine (insert_calls v10 l at' x w10 w9.heap.size w9.heap.size (Kd.R_lower hR (by omega)) (by omega) hat (by omega) (hB.below hb hlt) (fun e => ?_)).mono ?_
  · have := (hr.1 _ e.symm).2.1
    omega
  · rintro e w' ⟨v', rfl, h1, h2⟩
    exact ⟨v', rfl, h1, hb'.trans h2⟩
set_option maxHeartbeats 8000000 in
set_option maxRecDepth 100000 in
theorem renew_calls (A0 : Option Addr) (c0 : Nat) (l : List S49) (A1 : Option Addr) (c1 : Nat) (ns : List Int) (need : Int) (A2 : Option Addr) (c2 : Nat) (v : List S28) (w : World) (hr0 : Kd.C k49 w A0 l.length l) (hc0 : l.length ≤ c0) (hr1 : Kd.C (Kd.int .i64) w A1 ns.length ns) (hc1 : ns.length ≤ c1) (hr2 : Kd.C k28 w A2 v.length v) (hc2 : v.length ≤ c2) (hT : TabOk w) :
    Calls Tryd.prog 16 #[.slice A0 l.length c0, .slice A1 ns.length c1, .int .i64 need, .slice A2 v.length c2] w fun e w' =>
      ∃ u, e = .returned (.tuple #[u, .int .i64 (renewV l ns need v).2]) ∧ Kd.R k49 49 w' w.heap.size (fun _ => True) u (renewV l ns need v).1 ∧ Below w.heap.size w w' := by
  have HR := Lib.hid (And.intro hr0 (And.intro hr1 (And.intro hr2 hT)))
  have HC := Lib.hid (And.intro hc0 (And.intro hc1 hc2))
  clear hr0 hr1 hr2 hT hc0 hc1 hc2
  obtain ⟨RES, hRES⟩ : ∃ r, renewV l ns need v = r := ⟨_, rfl⟩
  rw [hRES]
  have HRES := Lib.hid hRES
  clear hRES
  go_enter Tryd.func16, Tryd.ntmps16
  go_wp2_with fail
  have h0 := Lib.hid (show Rf w ((w.alloc (.cells #[.slice A0 l.length c0] 22)).alloc (.cells #[.slice A1 ns.length c1] 23)) A0 c0 l A1 c1 ns from by
    have b1 := Blk.box w 22 [.slice A0 l.length c0]
    have b2 := Blk.box (w.alloc (.cells #[.slice A0 l.length c0] 22)) 23 [.slice A1 ns.length c1]
    have e : (w.alloc (.cells #[.slice A0 l.length c0] 22)).heap.size = w.heap.size + 1 := b1.2.1
    exact ⟨b1.2.2.trans (Below.mono b2.2.2 (by rw [e]; omega)), b1.1.alloc _, by have h := b2.1; rw [e] at h; exact h⟩)
  generalize (w.alloc (.cells #[.slice A0 l.length c0] 22)).alloc (.cells #[.slice A1 ns.length c1] 23) = W0 at *
  refine (keys_Valid.calls 1006 A0 c0 l (validB l) W0 (Kd.C_below HR.out.1 h0.out.b) HC.out.1 (valid_f l _ (Nat.le_refl _))).mono ?_
  rintro e w1 ⟨rfl, hd⟩
  have H1 := Lib.hid (h0.out.below hd)
  clear hd h0
  cases hv : validB l with
  | false =>
    have HE := Lib.hid (show RES = ([], 1) by rw [← HRES.out]; simp only [renewV, hv, Bool.false_and]; rfl)
    clear HRES hv
    go_wp2_with fail
    go_ret2
    exact ⟨_, by rw [HE.out]; rfl, by rw [HE.out]; exact Kd.R_nil _ _ _ _ _, H1.out.b⟩
  | true =>
  have k1 := H1.out.kn.cell 0 _ rfl
  go_wp2_with fail
  clear k1
  refine (formed_calls A1 c1 ns need A2 c2 v w1 (Kd.C_below HR.out.2.1 H1.out.b) HC.out.2.1 (Kd.C_below HR.out.2.2.1 H1.out.b) HC.out.2.2).mono ?_
  rintro e w2 ⟨rfl, hd⟩
  have H2 := Lib.hid (H1.out.below hd)
  clear hd H1
  cases hf : formedV ns need v with
  | false =>
    have HE := Lib.hid (show RES = ([], 1) by rw [← HRES.out]; simp only [renewV, hf, Bool.and_false]; rfl)
    clear HRES hv hf
    go_wp2_with fail
    go_ret2
    exact ⟨_, by rw [HE.out]; rfl, by rw [HE.out]; exact Kd.R_nil _ _ _ _ _, H2.out.b⟩
  | true =>
  obtain ⟨n1, n2, n3, n4, n5⟩ := formed_len hf
  have hlen : l.length ≤ 1000 := by simp only [validB, Bool.and_eq_true, decide_eq_true_eq] at hv; exact hv.1
  obtain ⟨ad, rfl, d0, d1, d2, d3, d4, d5⟩ := at_T28 (Kd.C_below HR.out.2.2.1 H2.out.b) 0 (by omega) (by omega)
  have ea : ad.add 0 = ad := rfl
  simp only [Int.toNat_zero, Nat.zero_mul, ea] at d0 d1 d2 d3 d4 d5
  obtain ⟨x, hx⟩ : ∃ x, newK v = x := ⟨_, rfl⟩
  obtain ⟨hx0, hx1, hx2⟩ := says_new (formed_says hf).2
  rw [hx] at hx0 hx1 hx2
  have HX := Lib.hid (And.intro (ok_new hx0 hx1 hx2) hx)
  have e0 : (rd_T28 v 0).f0 = x.f0 := by rw [← hx]; rfl
  have e1 : (rd_T28 v 0).f1 = x.f1 := by rw [← hx]; rfl
  have e2 : (rd_T28 v 0).f2 = x.f2 := by rw [← hx]; rfl
  rw [e0] at d0
  rw [e1] at d1
  rw [e2] at d2
  have HVF := Lib.hid (And.intro hv hf)
  have q : ∀ o p u, w2.cell? p = some u → (w2.alloc o).cell? p = some u := fun o p u h => (((Below.refl w2.heap.size w2).alloc (Nat.le_refl _) o).cell (World.block_lt_of_cell? w2 _ h)).trans h
  have q0 := fun o => q o _ _ d0
  have q1 := fun o => q o _ _ d1
  have q2 := fun o => q o _ _ d2
  clear q ea d3 d4 d5 hx0 hx1 hx2 hx e0 e1 e2 hv hf
  go_wp2_with fail
  go_region
  clear q0 q1 q2 d0 d1 d2
  have h3 := Lib.hid (show Rf w ((w2.alloc (.cells #[.int .i64 x.f0, .int .i64 x.f1, .int .i64 x.f2] 49)).drew) A0 c0 l A1 c1 ns from H2.out.below (below_drew1 ((Below.refl w2.heap.size w2).alloc (Nat.le_refl _) _)))
  have hx3 := Lib.hid (show Blk ((w2.alloc (.cells #[.int .i64 x.f0, .int .i64 x.f1, .int .i64 x.f2] 49)).drew) w2.heap.size 49 (cK x) from (Blk.box w2 49 (cK x)).1.drew)
  have hbx := Lib.hid (H2.out.b.size)
  generalize (w2.alloc (.cells #[.int .i64 x.f0, .int .i64 x.f1, .int .i64 x.f2] 49)).drew = w3 at *
  generalize w2.heap.size = bx at *
  clear H2
  have k0 := h3.out.kl.cell 0 _ rfl
  have k1 := hx3.out.cell 0 _ rfl
  go_wp2_with fail
  refine (keys_behind.calls A0 c0 l x.f0 36524 (behV l x.f0 36524 : Nat) w3 (Kd.C_below HR.out.1 h3.out.b) HC.out.1 (by unfold keys_behind.f; rw [if_pos (by omega)])).mono ?_
  rintro e w4 ⟨rfl, hd⟩
  have H4 := Lib.hid (h3.out.below hd)
  have HX4 := Lib.hid (hx3.out.below hd hx3.out.lt)
  clear hd h3 hx3 k0 k1
  obtain ⟨at', hat⟩ : ∃ a, behV l x.f0 36524 = a := ⟨_, rfl⟩
  have hatl : at' ≤ l.length := by rw [← hat]; exact behV_le _ _ _
  rw [hat]
  have HAT := Lib.hid (show atV l x = at' from hat)
  clear hat
  by_cases hlate : lateB l x = true
  case pos =>
    have HE := Lib.hid (show RES = ([], 6) by rw [← HRES.out]; simp only [renewV, HVF.out.1, HVF.out.2, HX.out.2, hlate, Bool.and_true, if_true])
    have hl2 : 0 < at' ∧ (rd_T49 l ((at' - 1 : Nat) : Int)).f0 = x.f0 ∧ x.f2 ≤ (rd_T49 l ((at' - 1 : Nat) : Int)).f2 := by
      simp only [lateB, HAT.out, Bool.and_eq_true, decide_eq_true_eq, beq_iff_eq] at hlate
      exact hlate
    obtain ⟨g0, g1, g2⟩ := hl2
    obtain ⟨ad', rfl, d0, d1, d2⟩ := at_T49 (Kd.C_below HR.out.1 H4.out.b) ((at' - 1 : Nat) : Int) (by omega) (by omega)
    rw [g1] at d0
    obtain ⟨f2, hf2⟩ : ∃ f, (rd_T49 l ((at' - 1 : Nat) : Int)).f2 = f := ⟨_, rfl⟩
    rw [hf2] at d2 g2
    rw [Int.toNat_natCast] at d0 d2
    have k0 := H4.out.kl.cell 0 _ rfl
    have k1 := HX4.out.cell 0 _ rfl
    have k2 := HX4.out.cell 2 _ rfl
    have hsub : IntKind.i64.wrap ((at' : Int) - 1) = ((at' - 1 : Nat) : Int) := by rw [IntKind.wrap_i64]; omega
    have g3 : (0 : Int) < (at' : Int) := by omega
    have g4 : at' - 1 < l.length := by omega
    clear HRES hf2 g1 d1 hlate
    go_wp2_with fail
    go_region
    go_wp2_with fail
    go_ret2
    exact ⟨_, by rw [HE.out]; rfl, by rw [HE.out]; exact Kd.R_nil _ _ _ _ _, below_drew1 H4.out.b⟩
  go_upto_region 5 with (fail)
  go_cut [67] (fun b wx => b = .bool false ∧ wx = w4.drew)
  case first =>
    have hl2 : 0 < at' → (rd_T49 l ((at' - 1 : Nat) : Int)).f0 = x.f0 → x.f2 ≤ (rd_T49 l ((at' - 1 : Nat) : Int)).f2 → False := by
      intro a1 a2 a3
      exact hlate (by simp only [lateB, HAT.out, Bool.and_eq_true, decide_eq_true_eq, beq_iff_eq]; exact ⟨a1, a2, a3⟩)
    clear hlate
    by_cases g0 : 0 < at'
    case neg =>
      have g3 : ¬ (0 : Int) < (at' : Int) := by omega
      clear hl2
      go_region
      go_wp2_with fail
      go_meet
      exact ⟨rfl, rfl⟩
    obtain ⟨ad', rfl, d0, d1, d2⟩ := at_T49 (Kd.C_below HR.out.1 H4.out.b) ((at' - 1 : Nat) : Int) (by omega) (by omega)
    obtain ⟨f0, hf0⟩ : ∃ f, (rd_T49 l ((at' - 1 : Nat) : Int)).f0 = f := ⟨_, rfl⟩
    obtain ⟨f2, hf2⟩ : ∃ f, (rd_T49 l ((at' - 1 : Nat) : Int)).f2 = f := ⟨_, rfl⟩
    have hl3 := hl2 g0
    rw [hf2] at d2 hl3
    rw [hf0] at d0 hl3
    rw [Int.toNat_natCast] at d0 d2
    have k0 := H4.out.kl.cell 0 _ rfl
    have k1 := HX4.out.cell 0 _ rfl
    have k2 := HX4.out.cell 2 _ rfl
    have hsub : IntKind.i64.wrap ((at' : Int) - 1) = ((at' - 1 : Nat) : Int) := by rw [IntKind.wrap_i64]; omega
    have g3 : (0 : Int) < (at' : Int) := by omega
    have g4 : at' - 1 < l.length := by omega
    clear HRES hf0 hf2 d1 hl2
    by_cases g5 : f0 = x.f0
    · have g6 : ¬ x.f2 ≤ f2 := hl3 g5
      have g7 : (f0 == x.f0) = true := beq_iff_eq.2 g5
      clear hl3
      go_region
      go_wp2_with fail
      go_meet
      exact ⟨rfl, rfl⟩
    · have g7 : (f0 == x.f0) = false := beq_eq_false_iff_ne.2 g5
      clear hl3
      go_region
      go_wp2_with fail
      go_meet
      exact ⟨rfl, rfl⟩
  case rest =>
    obtain ⟨rfl, rfl⟩ := hcut
    have H5 := Lib.hid (show Rf w w4.drew A0 c0 l A1 c1 ns from H4.out.below (below_drew1 (Below.refl _ _)))
    have HX5 := Lib.hid (show Blk w4.drew bx 49 (cK x) from HX4.out.drew)
    clear H4 HX4
    generalize w4.drew = w5 at *
    have hmm := @run_makeMap Tryd.prog
    have hlt5 := H5.out.kn.lt
    go_wp2_with fail
    clear hmm hlt5
    have H6 := Lib.hid (show Rw w ((w5.alloc (.map #[] 0)).alloc (.cells #[.map (some w5.heap.size)] 64)) bx (w5.heap.size + 1) w5.heap.size [] A0 c0 l A1 c1 ns x from by
      have e : (w5.alloc (.map #[] 0)).heap.size = w5.heap.size + 1 := World.size_alloc _ _
      have b1 : Below w5.heap.size w5 (w5.alloc (.map #[] 0)) := (Below.refl _ _).alloc (Nat.le_refl _) _
      have b2 := Blk.box (w5.alloc (.map #[] 0)) 64 [.map (some w5.heap.size)]
      rw [e] at b2
      have b3 := b1.trans (Below.mono b2.2.2 (by omega))
      have h5 := H5.out.below b3
      have h6 := H5.out.kn.lt
      have h7 := HX5.out.lt
      exact ⟨h5.b, h5.kl, h5.kn, HX5.out.below b3 h7, b2.1, (IntSet.new w5).same (b2.2.2.block _ (by omega)), by omega⟩)
    generalize (w5.alloc (.map #[] 0)).alloc (.cells #[.map (some w5.heap.size)] 64) = w6 at *
    generalize w5.heap.size + 1 = bw at *
    generalize w5.heap.size = m at *
    clear H5 HX5
    go_loopw [72] (fun i wr => ∃ (k : Nat) (ks : List Int), k ≤ v.length ∧ i = .int .i64 k ∧ Hid (Rw w wr bx bw m ks A0 c0 l A1 c1 ns x) ∧ Hid (allTry l ns x (v.drop k) ks = allTry l ns x v [])) (fun i _ => v.length - (intOf i).toNat)
    case atStart => exact ⟨0, [], Nat.zero_le _, rfl, H6, rfl⟩
    case round =>
      obtain ⟨k, ks, hk, rfl, hB, hno⟩ := hrel
      by_cases hlt : k < v.length
      · obtain ⟨y, hy⟩ : ∃ y, rd_T28 v (k : Int) = y := ⟨_, rfl⟩
        obtain ⟨ad', e', d0, d1, d2, d3, d4, d5⟩ := at_T28 (Kd.C_below HR.out.2.2.1 hB.out.b) (k : Int) (by omega) (by omega)
        cases e'
        rw [hy] at d0 d1 d2 d3 d4 d5
        simp only [Int.toNat_natCast] at d0 d1 d2 d3 d4 d5
        have hg : v[k] = y := (rd_getV hlt).symm.trans hy
        have hd : v.drop k = y :: v.drop (k + 1) := by rw [List.drop_eq_getElem_cons hlt, hg]
        have hs := hno.out
        rw [hd] at hs
        have HSS := Lib.hid hs
        have hw : IntKind.i64.wrap ((k : Int) + 1) = (k : Int) + 1 := by rw [IntKind.wrap_i64]; omega
        clear hs hno hg hd hy
        go_wp2_with fail
        clear d0 d1 d2 d3 d4 d5
        have H7 := Lib.hid (hB.out.below ((Below.refl wr.heap.size wr).alloc (Nat.le_refl _) (.cells #[.int .i64 y.f0, .int .i64 y.f1, .int .i64 y.f2, .int .i64 y.f3, .int .i64 y.f4.f0, .int .i64 y.f4.f1] 28)))
        generalize wr.alloc (.cells #[.int .i64 y.f0, .int .i64 y.f1, .int .i64 y.f2, .int .i64 y.f3, .int .i64 y.f4.f0, .int .i64 y.f4.f1] 28) = w7 at *
        generalize wr.heap.size = by' at *
        clear hB
        refine (try_calls w.heap.size bx (w.heap.size + 1) bw m A0 c0 l A1 c1 ns x y ks w7 (H7.out.ren HR.out.1 HR.out.2.1 HR.out.2.2.2) H7.out.s HC.out.1 hlen HC.out.2.1 (by omega) HX.out.1).mono ?_
        rintro e w8 ⟨rfl, hs8, hg8⟩
        have H8 := Lib.hid (H7.out.grown hg8 hs8)
        clear hs8 hg8 H7
        obtain ⟨r, hr⟩ : ∃ r, tryV l ns x y = r := ⟨_, rfl⟩
        rw [hr] at H8 ⊢
        by_cases h0 : r = 0
        · subst h0
          have HS := Lib.hid (show allTry l ns x (v.drop (k + 1)) (addS ks y.f3) = allTry l ns x v [] by rw [← HSS.out, allTry, if_pos hr])
          rw [show afterS 0 ks y.f3 = addS ks y.f3 from rfl] at H8
          clear HSS hr
          go_wp2_with fail
          go_roundw
          case rel => exact ⟨k + 1, addS ks y.f3, by omega, by go_num, H8, HS⟩
          case measure => simp [intOf]; omega
        · have hne : tryV l ns x y ≠ 0 := by rw [hr]; exact h0
          have HE := Lib.hid (show RES = ([], r) by
            rw [← HRES.out, renewV, HVF.out.1, HVF.out.2, HX.out.2, if_pos (by decide), if_neg hlate, if_neg (by rw [← HSS.out, allTry_ne l ns x _ ks hne]; exact hne), ← HSS.out, allTry_ne l ns x _ ks hne, hr])
          have h02 : (r == 0) = false := beq_eq_false_iff_ne.2 h0
          clear HSS hr hne HRES
          go_wp2_with fail
          go_ret2
          exact ⟨_, by rw [HE.out]; rfl, by rw [HE.out]; exact Kd.R_nil _ _ _ _ _, H8.out.b⟩
      · obtain rfl : k = v.length := by omega
        have hs := hno.out
        rw [List.drop_length, allTry] at hs
        have HSS := Lib.hid (show allTry l ns x v [] = (ks, 0) from hs.symm)
        clear hs hno
        have k0 := hB.out.kw.cell 0 _ rfl
        have k1 := hB.out.kl.cell 0 _ rfl
        have hlm := run_len_set (P := Tryd.prog) Tryd.underlying64 hB.out.s
        by_cases hn : (ks.length : Int) < need
        · have HE := Lib.hid (show RES = ([], 33) by
            rw [← HRES.out, renewV, HVF.out.1, HVF.out.2, HX.out.2, if_pos (by decide), if_neg hlate, HSS.out, if_pos rfl, if_pos hn])
          clear HRES HSS
          go_wp2_with fail
          go_ret2
          exact ⟨_, by rw [HE.out]; rfl, by rw [HE.out]; exact Kd.R_nil _ _ _ _ _, hB.out.b⟩
        by_cases h1000 : l.length = 1000
        · have HE := Lib.hid (show RES = ([], 2) by
            rw [← HRES.out, renewV, HVF.out.1, HVF.out.2, HX.out.2, if_pos (by decide), if_neg hlate, HSS.out, if_pos rfl, if_neg hn, if_pos h1000])
          have h10 : ((l.length : Int) == 1000) = true := beq_iff_eq.2 (by omega)
          clear HRES HSS h1000
          go_wp2_with fail
          go_ret2
          exact ⟨_, by rw [HE.out]; rfl, by rw [HE.out]; exact Kd.R_nil _ _ _ _ _, hB.out.b⟩
        have HE := Lib.hid (show RES = (l.take at' ++ x :: l.drop at', 0) by
          rw [← HRES.out, renewV, HVF.out.1, HVF.out.2, HX.out.2, if_pos (by decide), if_neg hlate, HSS.out, if_pos rfl, if_neg hn, if_neg h1000, HAT.out])
        have h10 : ((l.length : Int) == 1000) = false := beq_eq_false_iff_ne.2 (by omega)
        clear HRES HSS
        go_wp2_with fail
        have HS9 := Lib.hid (show SK w.heap.size bx A0 c0 l x wr from ⟨k1, hB.out.kx.cell 0 _ rfl, hB.out.kx.cell 1 _ rfl, hB.out.kx.cell 2 _ rfl⟩)
        have HB9 := Lib.hid hB.out.b
        have g0 := hB.out.kl.cell 0 _ rfl
        have g1 := hB.out.kx.cell 0 _ rfl
        have g2 := hB.out.kx.cell 1 _ rfl
        have g3 := hB.out.kx.cell 2 _ rfl
        clear k0 k1 hlm hB
        go_region_held3 (fun W => W.cell? ⟨w.heap.size, 0, none⟩ = some (.slice A0 l.length c0) ∧ W.cell? ⟨bx, 0, none⟩ = some (.int .i64 x.f0) ∧ W.cell? ⟨bx, 1, none⟩ = some (.int .i64 x.f1) ∧ W.cell? ⟨bx, 2, none⟩ = some (.int .i64 x.f2))
          (first | go_keep | exact keepK HS9.out (Below.trans (by repeat (first | exact Below.refl _ _ | refine Below.alloc ?_ (by first | exact Nat.le_refl _ | simp) _ | refine Below.drew ?_)) (Below.mono hd10 (by first | exact Nat.le_refl _ | simp))) | exact keepK HS9.out hd11)
          (first
            | (go_at_call 40; refine (clone_K A0 c0 l _ (Kd.C_below HR.out.1 (by repeat (first | exact HB9.out | refine Below.alloc ?_ HB9.out.size _ | refine Below.drew ?_))) (by omega)).mono ?_; rintro e w10 ⟨v10, rfl, hR10, hd10⟩)
            | (go_at_call 39; refine (insA (w9 := wr) at' x hR10 ((below_drew1 (Below.refl _ _)).trans hd10) hatl hlen).mono ?_; rintro e w11 ⟨v11, rfl, hR11, hd11⟩)
            | (go_at_call 39; refine (insB (w9 := wr) at' x (by repeat (first | exact Below.refl _ _ | refine Below.alloc ?_ (Nat.le_refl _) _ | refine Below.drew ?_)) (by first | exact (Blk.box wr 49 (cK x)).1 | exact (Blk.box wr 49 (cK x)).1.drew | exact (Blk.box wr.drew 49 (cK x)).1) hR10 hd10 hatl hlen).mono ?_; rintro e w11 ⟨v11, rfl, hR11, hd11⟩))
        all_goals
          have HZ := Lib.hid (And.intro (Kd.R_lower hR11 HB9.out.size) (HB9.out.trans (Below.mono hd11 HB9.out.size)))
          clear hR11 hd11 hR10 hd10
          go_wp2_with fail
          go_ret2
          exact ⟨_, by rw [HE.out]; rfl, by rw [HE.out]; exact HZ.out.1, HZ.out.2⟩
def keys_Renew.f (l0 : List S49) (l1 : List Int) (a2 : Int) (l3 : List S28) : Option (List S49 × Int) := some (renewV l0 l1 a2 l3)
theorem keys_Renew.calls (A0 : Option Addr) (c0 : Nat) (l0 : List S49) (A1 : Option Addr) (c1 : Nat) (l1 : List Int) (a2 : Int) (A3 : Option Addr) (c3 : Nat) (l3 : List S28) (r1 : List S49) (r2 : Int) (w : World) (hr0 : Kd.C k49 w A0 l0.length l0) (hc0 : l0.length ≤ c0) (hr1 : Kd.C (Kd.int .i64) w A1 l1.length l1) (hc1 : l1.length ≤ c1) (hr3 : Kd.C k28 w A3 l3.length l3) (hc3 : l3.length ≤ c3) (hT : TabOk w) (h : keys_Renew.f l0 l1 a2 l3 = some (r1, r2)) :
    Calls Tryd.prog 16 #[.slice A0 l0.length c0, .slice A1 l1.length c1, .int .i64 a2, .slice A3 l3.length c3] w fun e w' => ∃ v0_ : Value, e = .returned (.tuple #[v0_, .int .i64 r2]) ∧ Kd.R k49 49 w' w.heap.size (fun _ => True) v0_ r1 ∧ Below w.heap.size w w' := by
  have e : renewV l0 l1 a2 l3 = (r1, r2) := Option.some.inj h
  have hc := renew_calls A0 c0 l0 A1 c1 l1 a2 A3 c3 l3 w hr0 hc0 hr1 hc1 hr3 hc3 hT
  rw [e] at hc
  exact hc
end Go.Proofs.YtcnkenknbmmglaaDoor.P
