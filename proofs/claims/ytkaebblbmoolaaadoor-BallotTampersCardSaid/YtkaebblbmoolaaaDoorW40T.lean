/- Chapter 40: BallotTampers: the law's own function, that checks a mix with another link. -/
import Derived.Test.YtkaebblbmoolaaaDoorPbG
import Derived.Test.YtkaebblbmoolaaaDoorXhead40
set_option linter.unusedSimpArgs false
set_option linter.unusedVariables false
namespace Go.Proofs.YtkaebblbmoolaaaDoor.P
open Go Go.RowKit Go.Proofs.YtkaebblbmoolaaaDoorW.PrintWords Go.Proofs.YtkaebblbmoolaaaDoorW.PrintLast Go.Proofs.YtkaebblbmoolaaaDoorW.PrintMore Go.Proofs.YtkaebblbmoolaaaDoor.Ord
attribute [local go_sem ↓] Go.wp_at_zero Go.wp_at_succ
set_option maxHeartbeats 4000000 in
set_option maxRecDepth 100000 in
theorem with_calls (pub : Int) (Ai : Option Addr) (ci : Nat) (inn : List S23) (A0 : Option Addr) (c0 : Nat) (mid : List S23) (A1 : Option Addr) (c1 : Nat) (out : List S23) (A2 : Option Addr) (c2 : Nat) (links : List S53) (k : Nat) (hk : k < links.length) (h64 : links.length ≤ 1000) (x : S53) (Bp Bi Bm Bk : Nat) (is : Bool) (w : World)
    (hri : Kd.C k23 w Ai inn.length inn) (hci : inn.length ≤ ci) (hr0 : Kd.C k23 w A0 mid.length mid) (hc0 : mid.length ≤ c0) (hr1 : Kd.C k23 w A1 out.length out) (hc1 : out.length ≤ c1) (hr2 : Kd.C k53 w A2 links.length links) (hc2 : links.length ≤ c2) (hT : TabOk w)
    (hp : Blk w Bp 3 [.int .i64 pub]) (hi : Blk w Bi 24 [.slice Ai inn.length ci]) (hm : Blk w Bm 28 [.slice A0 mid.length c0, .slice A1 out.length c1, .slice A2 links.length c2]) (hkb : Blk w Bk 3 [.int .i64 k])
    (hres : chkV pub inn mid out (links.set k x) = (is, 0)) :
    Calls Tryd.prog 27 #[.agg #[.int .i64 x.f0, .int .i64 x.f1, .int .i64 x.f2], .pointer (some ⟨Bm, 0, none⟩), .pointer (some ⟨Bk, 0, none⟩), .pointer (some ⟨Bp, 0, none⟩), .pointer (some ⟨Bi, 0, none⟩)] w fun e w' => e = .returned (.tuple #[.bool is, .bool true]) ∧ Below w.heap.size w w' := by
  have HRES := Lib.hid hres
  have HT := Lib.hid hT
  have HR := Lib.hid (And.intro hri (And.intro hr0 (And.intro hr1 hr2)))
  have HC := Lib.hid (And.intro hci (And.intro hc0 (And.intro hc1 hc2)))
  have HB := Lib.hid (And.intro hp (And.intro hi (And.intro hm hkb)))
  have HK := Lib.hid (And.intro hk h64)
  clear hres hT hri hr0 hr1 hr2 hci hc0 hc1 hc2 hp hi hm hkb hk h64
  go_enter Tryd.func27, Tryd.ntmps27
  go_wp2_with ((with_reducible refine gate_dst (N := 11) rfl ?_); refine Stop.out ?_)
  refine ⟨?_⟩
  have hx1 := Blk.new w 53 [.int .i64 x.f0, .int .i64 x.f1, .int .i64 x.f2]
  have hs1 := World.size_alloc w (Obj.cells #[Value.int IntKind.i64 x.f0, Value.int IntKind.i64 x.f1, Value.int IntKind.i64 x.f2] 53)
  have hb1 := (Below.refl w.heap.size w).alloc (Nat.le_refl _) (Obj.cells #[Value.int IntKind.i64 x.f0, Value.int IntKind.i64 x.f1, Value.int IntKind.i64 x.f2] 53)
  rw [show (List.toArray [Value.int IntKind.i64 x.f0, Value.int IntKind.i64 x.f1, Value.int IntKind.i64 x.f2]) = #[Value.int IntKind.i64 x.f0, Value.int IntKind.i64 x.f1, Value.int IntKind.i64 x.f2] from rfl] at hx1
  generalize w.alloc (Obj.cells #[Value.int IntKind.i64 x.f0, Value.int IntKind.i64 x.f1, Value.int IntKind.i64 x.f2] 53) = w1 at hx1 hs1 hb1 ⊢
  have hm1 := HB.out.2.2.1.below hb1 HB.out.2.2.1.lt
  have m0 := hm1.cell 0 _ rfl
  have m1 := hm1.cell 1 _ rfl
  have m2 := hm1.cell 2 _ rfl
  have H1 := Lib.hid (And.intro hx1 (And.intro hs1 (And.intro hb1 hm1)))
  clear hx1 hs1 hb1 hm1
  go_wp2_with ((with_reducible refine gate_dst (N := 12) rfl ?_); refine Stop.out ?_)
  refine ⟨?_⟩
  have hx2 := Blk.new w1 28 [.slice A0 mid.length c0, .slice A1 out.length c1, .slice A2 links.length c2]
  have hs2 := World.size_alloc w1 (Obj.cells #[Value.slice A0 mid.length c0, Value.slice A1 out.length c1, Value.slice A2 links.length c2] 28)
  have hb2 := (Below.refl w1.heap.size w1).alloc (Nat.le_refl _) (Obj.cells #[Value.slice A0 mid.length c0, Value.slice A1 out.length c1, Value.slice A2 links.length c2] 28)
  rw [show (List.toArray [Value.slice A0 mid.length c0, Value.slice A1 out.length c1, Value.slice A2 links.length c2]) = #[Value.slice A0 mid.length c0, Value.slice A1 out.length c1, Value.slice A2 links.length c2] from rfl] at hx2
  generalize w1.alloc (Obj.cells #[Value.slice A0 mid.length c0, Value.slice A1 out.length c1, Value.slice A2 links.length c2] 28) = w2 at hx2 hs2 hb2 ⊢
  have hB2 : Below w.heap.size w w2 := H1.out.2.2.1.trans (Below.mono hb2 (by have := H1.out.2.1; omega))
  have H2 := Lib.hid (And.intro hx2 (And.intro hs2 (And.intro hB2 (And.intro (H1.out.1.below hb2 H1.out.1.lt) (H1.out.2.2.2.below hb2 H1.out.2.2.2.lt)))))
  clear hx2 hs2 hb2 hB2 m0 m1 m2
  refine Kd.R_lit k53 (w0 := w2) w2.heap.size 53 ?hg (N := 12) ?hd (xs := ([] : List S53)) (inner := []) (ok := fun _ => True) (okp := fun _ => True) ?hr ?hp (fun _ hk => hk) trivial (Below.refl _ _) (Nat.le_refl _) (by simp) ?_
  case hd => rfl
  case hg => rfl
  case hr => first | (go_simp; done) | (go_simp; rfl)
  case hp => exact (Reps.none _ _)
  intro v3 w3 ho3 hb3 hg3 hn3
  have m2 := (H2.out.2.2.2.2.below hb3 H2.out.2.2.2.2.lt).cell 2 _ rfl
  have H3 := Lib.hid (And.intro ho3 hb3)
  clear ho3 hb3 hg3 hn3
  go_wp2_with ((with_reducible refine gate_builtin (b := .append) (xs := #[.tmp 12, .tmp 14]) rfl ?_); at_builtin; refine Stop.out ?_)
  refine ⟨?_⟩
  refine Kd.R_append_rows k53 (w0 := w2) w2.heap.size rfl (.tmp 12) (.tmp 14) 26 53 (.agg #[(.int .i64 0), (.int .i64 0), (.int .i64 0)]) 24 rfl Tryd.underlying26 info_l rfl (by decide) (by omega) v3 [] links _ _ _ (fun _ => True) (fun _ => False) rfl rfl ?aO ?aR (fun _ _ h => h) (fun _ h => h.elim) (fun _ _ => trivial) H3.out.2 H3.out.2.size ?aL ?_
  case aR => exact Kd.C_below HR.out.2.2.2 (H2.out.2.2.1.trans (Below.mono H3.out.2 H2.out.2.2.1.size))
  case aO => exact H3.out.1
  case aL => have := HK.out; simp; omega
  intro v4 w4 ho4 hb4 hg4 hat4
  rw [List.nil_append] at ho4
  obtain ⟨g, cap, rfl, hq1, hq2, hq3⟩ := Kd.R_form ho4 (by have := HK.out; omega)
  have hy4 := H2.out.1.below hb4 H2.out.1.lt
  have z0 := hy4.cell 2 _ rfl
  have z1 := hy4.frozen 2
  have H4 := Lib.hid (And.intro ho4 (And.intro hb4 (And.intro hy4 (And.intro (H2.out.2.2.2.1.below hb4 H2.out.2.2.2.1.lt) hq1))))
  clear ho4 hb4 hg4 hat4 hq2 hq3 hy4 m2
  go_wp2_with ((with_reducible refine gate_dst (N := 17) rfl ?_); refine Stop.out ?_)
  refine ⟨?_⟩
  have hlt1 : w.heap.size < w1.heap.size := by have := H1.out.2.1; omega
  have hlt2 : w1.heap.size < w2.heap.size := by have := H2.out.2.1; omega
  have hy5 := H4.out.2.2.1.set 2 (.slice (some ⟨g, 0, none⟩) links.length cap)
  have hx5 := H4.out.2.2.2.1.other (Nat.ne_of_lt hlt1) 2 (.slice (some ⟨g, 0, none⟩) links.length cap)
  have hro : Kd.R k53 53 w4 w2.heap.size (fun k => k ≠ w1.heap.size) (.slice (some ⟨g, 0, none⟩) links.length cap) links := Kd.R_mono (Kd.R_bound H4.out.1) (fun k hk => by have := hk.2.1; omega)
  have ho5 := Kd.R_far (p := ⟨w1.heap.size, 2, none⟩) hro (fun _ hk => hk) (.slice (some ⟨g, 0, none⟩) links.length cap)
  clear hro
  have hb5 : Below w.heap.size w (w4.setCell ⟨w1.heap.size, 2, none⟩ (.slice (some ⟨g, 0, none⟩) links.length cap)) := (H2.out.2.2.1.trans (Below.mono H4.out.2.1 H2.out.2.2.1.size)).setCell (Nat.le_of_lt hlt1) _
  have hs5 : (w4.setCell ⟨w1.heap.size, 2, none⟩ (.slice (some ⟨g, 0, none⟩) links.length cap)).heap.size = w4.heap.size := World.size_setCell _ _ _
  generalize w4.setCell ⟨w1.heap.size, 2, none⟩ (.slice (some ⟨g, 0, none⟩) links.length cap) = w5 at hy5 hx5 ho5 hb5 hs5 ⊢
  obtain ⟨c, hc1, hc2, hc3, hc4⟩ := Kd.R_elem ho5 z53 (k : Int) (by omega) (by have := HK.out; omega)
  have x0 := hx5.cell 0 _ rfl
  have x1 := hx5.cell 1 _ rfl
  have x2 := hx5.cell 2 _ rfl
  have y2 := hy5.cell 2 _ rfl
  have kc := (HB.out.2.2.2.below hb5 HB.out.2.2.2.lt).cell 0 _ rfl
  have H5 := Lib.hid (And.intro ho5 (And.intro hb5 (And.intro hy5 (And.intro hc1 (And.intro hc3 (And.intro hlt1 (And.intro hlt2 hs5)))))))
  have k0 : (0 : Int) ≤ (k : Int) := by omega
  have k1 : (k : Int) < (links.length : Int) := by have := HK.out; omega
  clear hy5 hx5 ho5 hb5 hs5 hc1 hc2 hc3 hc4 z0 z1 hlt1 hlt2
  go_wp2_with ((with_reducible refine gate_store (t := 53) (p := 21) rfl ?_); refine Stop.out ?_)
  refine ⟨?_⟩
  refine Kd.R_store k53 (w0 := w5) w2.heap.size rfl rfl 53 _ _ rfl 53 (k : Int) 0 links x (.agg #[.int .i64 x.f0, .int .i64 x.f1, .int .i64 x.f2]) [.int .i64 x.f0, .int .i64 x.f1, .int .i64 x.f2] c (fun k => k ≠ w1.heap.size) (fun _ => False) rfl (by rw [Int.toNat_natCast]; rfl) rfl rfl (by kernel_rfl) (by simp [Value.oneCell']) H5.out.1 k0 k1 H5.out.2.2.2.1 H5.out.2.2.2.2.1 (by rw [show k53.sz = 3 from rfl]; simp) ?hM (fun _ h => h.elim) (Below.refl _ _) ?_
  case hM =>
    have e : c.take 0 ++ [Value.int IntKind.i64 x.f0, Value.int IntKind.i64 x.f1, Value.int IntKind.i64 x.f2] ++ c.drop (0 + [Value.int IntKind.i64 x.f0, Value.int IntKind.i64 x.f1, Value.int IntKind.i64 x.f2].length) = [Value.int IntKind.i64 x.f0, Value.int IntKind.i64 x.f1, Value.int IntKind.i64 x.f2] := by
      rw [List.take_zero, List.nil_append, List.drop_eq_nil_of_le (by rw [H5.out.2.2.2.1]; exact Nat.le_refl _), List.append_nil]
    rw [e]
    exact k53_mkM _ _ _ x
  intro w6 ho6 hb6 hg6
  rw [Int.toNat_natCast] at ho6
  have hlen : (links.set k x).length = links.length := List.length_set
  have hbw6 : Below w.heap.size w w6 := H5.out.2.1.trans (Below.mono hb6 (by have := H5.out.2.2.2.2.2; omega))
  have hy6 := H5.out.2.2.1.grown hg6 (by simp only [ne_eq, Option.some.injEq]; have := H4.out.2.2.2.2; have := H5.out.2.2.2.2.2; omega)
  have y0 := hy6.cell 0 _ rfl
  have y1 := hy6.cell 1 _ rfl
  have y2' := hy6.cell 2 _ rfl
  have pc := (HB.out.1.below hbw6 HB.out.1.lt).cell 0 _ rfl
  have ic := (HB.out.2.1.below hbw6 HB.out.2.1.lt).cell 0 _ rfl
  have hrd := Kd.R_reads' ho6
  have C := ballot_Check.calls pub Ai ci inn A0 c0 mid A1 c1 out (some ⟨g, 0, none⟩) cap (links.set k x) is 0 w6 (Kd.C_below HR.out.1 hbw6) HC.out.1 (Kd.C_below HR.out.2.1 hbw6) HC.out.2.1 (Kd.C_below HR.out.2.2.1 hbw6) HC.out.2.2.1 hrd.2.2 (by rw [hlen]; exact hrd.2.1) (TabOk.below HT.out hbw6) (by unfold ballot_Check.f; rw [HRES.out])
  rw [hlen] at C
  have C := Lib.hid C
  have HB6 := Lib.hid hbw6
  clear ho6 hb6 hg6 hlen hbw6 hy6 hrd x0 x1 x2 y2 kc
  go_wp2_with fail
  refine C.out.mono ?_
  rintro e w7 ⟨rfl, hb7⟩
  have HB7 := Lib.hid (HB6.out.trans (Below.mono hb7 HB6.out.size))
  clear hb7 y0 y1 y2' pc ic
  go_wp2_with fail
  refine bodyPost_ret (results_tmp2 rfl _ _ _) rfl ?_
  exact ⟨by simp, HB7.out⟩
theorem boxes4 (w : World) (a k : Int) (s : Value) (m0 m1 m2 : Value) : ∃ w1, ((((w.alloc (Obj.cells #[Value.int IntKind.i64 a] 3)).alloc (Obj.cells #[s] 24)).alloc (Obj.cells #[m0, m1, m2] 28)).alloc (Obj.cells #[Value.int IntKind.i64 k] 3)) = w1 ∧
    Blk w1 w.heap.size 3 [.int .i64 a] ∧ Blk w1 (w.heap.size + 1) 24 [s] ∧ Blk w1 (w.heap.size + 1 + 1) 28 [m0, m1, m2] ∧ Blk w1 (w.heap.size + 1 + 1 + 1) 3 [.int .i64 k] ∧ Below w.heap.size w w1 ∧ w1.heap.size = w.heap.size + 4 := by
  refine ⟨_, rfl, ?_, ?_, ?_, ?_, ?_, ?_⟩
  · exact (((Blk.new w 3 [.int .i64 a]).alloc _).alloc _).alloc _
  · have := ((Blk.new (w.alloc (Obj.cells #[Value.int IntKind.i64 a] 3)) 24 [s]).alloc (Obj.cells #[m0, m1, m2] 28)).alloc (Obj.cells #[Value.int IntKind.i64 k] 3)
    rw [World.size_alloc] at this
    exact this
  · have := (Blk.new ((w.alloc (Obj.cells #[Value.int IntKind.i64 a] 3)).alloc (Obj.cells #[s] 24)) 28 [m0, m1, m2]).alloc (Obj.cells #[Value.int IntKind.i64 k] 3)
    rw [World.size_alloc, World.size_alloc] at this
    exact this
  · have := Blk.new (((w.alloc (Obj.cells #[Value.int IntKind.i64 a] 3)).alloc (Obj.cells #[s] 24)).alloc (Obj.cells #[m0, m1, m2] 28)) 3 [.int .i64 k]
    rw [World.size_alloc, World.size_alloc, World.size_alloc] at this
    exact this
  · exact ((((Below.refl _ w).alloc (Nat.le_refl _) _).alloc (by simp) _).alloc (by simp; omega) _).alloc (by simp; omega) _
  · simp only [World.size_alloc]
theorem enters_with : ∀ (args : Array Value) (w : World), (callFunc 27 args).run Tryd.prog w = .ok (.enter 27 args) w := enters_of Tryd.func27 (by kernel_rfl) rfl
set_option maxHeartbeats 4000000 in
set_option maxRecDepth 100000 in
theorem tampers_walk (pub : Int) (Ai : Option Addr) (ci : Nat) (inn : List S23) (A0 : Option Addr) (c0 : Nat) (mid : List S23) (A1 : Option Addr) (c1 : Nat) (out : List S23) (A2 : Option Addr) (c2 : Nat) (links : List S53) (k other by_ : Int) (w : World)
    (hri : Kd.C k23 w Ai inn.length inn) (hci : inn.length ≤ ci) (hr0 : Kd.C k23 w A0 mid.length mid) (hc0 : mid.length ≤ c0) (hr1 : Kd.C k23 w A1 out.length out) (hc1 : out.length ≤ c1) (hr2 : Kd.C k53 w A2 links.length links) (hc2 : links.length ≤ c2) (hT : TabOk w) (hby : (Lit.int .i64 by_).wf = true) :
    Calls Tryd.prog 8 #[.int .i64 pub, .slice Ai inn.length ci, .agg #[.slice A0 mid.length c0, .slice A1 out.length c1, .slice A2 links.length c2], .int .i64 k, .int .i64 other, .int .i64 by_] w fun e w' => e = .returned (.bool true) ∧ Below w.heap.size w w' := by
  have HT := Lib.hid hT
  have HR := Lib.hid (And.intro hri (And.intro hr0 (And.intro hr1 hr2)))
  have HC := Lib.hid (And.intro hci (And.intro hc0 (And.intro hc1 hc2)))
  have HBY := Lib.hid hby
  clear hT hri hr0 hr1 hr2 hci hc0 hc1 hc2 hby
  have eg := enters_with
  go_enter Tryd.func8, Tryd.ntmps8
  go_wp2_with fail
  obtain ⟨w1, hw1, p1, p2, p3, p4, hb1, hs1⟩ := boxes4 w pub k (.slice Ai inn.length ci) (.slice A0 mid.length c0) (.slice A1 out.length c1) (.slice A2 links.length c2)
  rw [hw1]
  refine (cohousinglaw40_head.calls true w1 (TabOk.below HT.out hb1) rfl).mono ?_
  rintro e w2 ⟨rfl, hb2⟩
  have P := Lib.hid (And.intro (p1.below hb2 p1.lt) (And.intro (p2.below hb2 p2.lt) (And.intro (p3.below hb2 p3.lt) (p4.below hb2 p4.lt))))
  have HB2 := Lib.hid (show Below w.heap.size w w2 from hb1.trans (Below.mono hb2 (by omega)))
  clear hw1 p1 p2 p3 p4 hb1 hs1 hb2
  have b0 := P.out.1.cell 0 _ rfl
  have b1 := P.out.2.1.cell 0 _ rfl
  have b2 := P.out.2.2.1.cell 0 _ rfl
  have b3 := P.out.2.2.1.cell 1 _ rfl
  have b4 := P.out.2.2.1.cell 2 _ rfl
  have b5 := P.out.2.2.2.cell 0 _ rfl
  by_cases h8 : (8 : Int) < (inn.length : Int)
  · have d8 : decide ((8 : Int) < (inn.length : Int)) = true := decide_eq_true h8
    clear h8
    go_wp2_with fail
    go_ret
    exact ⟨rfl, HB2.out⟩
  have d8 : decide ((8 : Int) < (inn.length : Int)) = false := decide_eq_false h8
  by_cases hk0 : k < 0
  · have d9 : decide (k < 0) = true := decide_eq_true hk0
    clear h8 hk0
    go_wp2_with fail
    go_ret
    exact ⟨rfl, HB2.out⟩
  have d9 : decide (k < 0) = false := decide_eq_false hk0
  by_cases hk1 : (inn.length : Int) ≤ k
  · have d10 : decide ((inn.length : Int) ≤ k) = true := decide_eq_true hk1
    clear h8 hk0 hk1
    go_wp2_with fail
    go_ret
    exact ⟨rfl, HB2.out⟩
  have d10 : decide ((inn.length : Int) ≤ k) = false := decide_eq_false hk1
  have HK0 := Lib.hid (show 0 ≤ k ∧ k < inn.length ∧ inn.length ≤ 8 by omega)
  clear h8 hk0 hk1
  go_wp2_with fail
  obtain ⟨⟨is, er⟩, hv⟩ : ∃ v, chkV pub inn mid out links = v := ⟨_, rfl⟩
  refine (ballot_Check.calls pub Ai ci inn A0 c0 mid A1 c1 out A2 c2 links is er w2 (Kd.C_below HR.out.1 HB2.out) HC.out.1 (Kd.C_below HR.out.2.1 HB2.out) HC.out.2.1 (Kd.C_below HR.out.2.2.1 HB2.out) HC.out.2.2.1 (Kd.C_below HR.out.2.2.2 HB2.out) HC.out.2.2.2 (TabOk.below HT.out HB2.out) (by unfold ballot_Check.f; rw [hv])).mono ?_
  rintro e w3 ⟨rfl, hb3⟩
  have P3 := Lib.hid (And.intro (P.out.1.below hb3 P.out.1.lt) (And.intro (P.out.2.1.below hb3 P.out.2.1.lt) (And.intro (P.out.2.2.1.below hb3 P.out.2.2.1.lt) (P.out.2.2.2.below hb3 P.out.2.2.2.lt))))
  have HB3 := Lib.hid (HB2.out.trans (Below.mono hb3 HB2.out.size))
  have HV := Lib.hid hv
  clear b0 b1 b2 b3 b4 b5 hb3 P HB2 hv d8 d9 d10
  have b1 := P3.out.2.1.cell 0 _ rfl
  have b2 := P3.out.2.2.1.cell 0 _ rfl
  have b3 := P3.out.2.2.1.cell 1 _ rfl
  go_wp2_with fail
  obtain ⟨⟨bits, ea⟩, hask⟩ : ∃ v, askV inn mid out = v := ⟨_, rfl⟩
  refine (ballot_Asked.calls Ai ci inn A0 c0 mid A1 c1 out bits ea w3 (Kd.C_below HR.out.1 HB3.out) HC.out.1 (Kd.C_below HR.out.2.1 HB3.out) HC.out.2.1 (Kd.C_below HR.out.2.2.1 HB3.out) HC.out.2.2.1 (TabOk.below HT.out HB3.out) (by unfold ballot_Asked.f; rw [hask])).mono ?_
  rintro e w4 ⟨vb, rfl, ho4, hb4⟩
  have P4 := Lib.hid (And.intro (P3.out.1.below hb4 P3.out.1.lt) (And.intro (P3.out.2.1.below hb4 P3.out.2.1.lt) (And.intro (P3.out.2.2.1.below hb4 P3.out.2.2.1.lt) (P3.out.2.2.2.below hb4 P3.out.2.2.2.lt))))
  have HB4 := Lib.hid (HB3.out.trans (Below.mono hb4 HB3.out.size))
  have HO4 := Lib.hid ho4
  have HAK := Lib.hid hask
  clear b1 b2 b3 hb4 P3 HB3 ho4 hask
  have b1 := P4.out.2.1.cell 0 _ rfl
  have b3 := P4.out.2.2.1.cell 1 _ rfl
  have b4 := P4.out.2.2.1.cell 2 _ rfl
  by_cases hyes : is = true ∧ er = 0
  case neg =>
    obtain ⟨Ag, cg, rfl, -, -⟩ := Kd.R_reads HO4.out
    have he := chkV_err pub inn mid out links
    rw [HV.out] at he
    simp only [Prod.mk.injEq] at he
    cases is with
    | true =>
      rcases he with rfl | ⟨h, _⟩
      · exact absurd ⟨rfl, rfl⟩ hyes
      · cases h
    | false =>
      rcases he with rfl | ⟨_, rfl⟩
      · clear hyes
        go_wp2_with fail
        go_ret
        exact ⟨rfl, HB4.out⟩
      · clear hyes
        go_wp2_with fail
        go_ret
        exact ⟨rfl, HB4.out⟩
  case pos =>
    obtain ⟨rfl, rfl⟩ := hyes
    obtain ⟨_, q0, q1, q2, q3, q4⟩ := chkV_yes HV.out
    rcases askV_cases inn mid out with ⟨_, r0, r1, r2, r3⟩ | ⟨hbad, _⟩
    case inr => rw [hbad] at q2; exact absurd q2 (by decide)
    rw [HAK.out] at q2 r3
    simp only at q2 r3
    subst q2
    obtain ⟨d1, d2⟩ := okL_parts r1
    obtain ⟨d3, d4⟩ := okL_parts r2
    have HL := Lib.hid (And.intro q3 (And.intro d2 (And.intro d4 r3)))
    have HQ := Lib.hid q1
    obtain ⟨g, cap, rfl, hg1, hg2, cells, hg3⟩ := Kd.R_form HO4.out (by have := HK0.out; omega)
    have e0 : ((out.length : Int) != (inn.length : Int)) = false := by simp; omega
    have e1 : ((links.length : Int) != (inn.length : Int)) = false := by simp; omega
    have e2 : ((bits.length : Int) != (inn.length : Int)) = false := by simp; omega
    have HCW := Lib.hid (And.intro hg3 (Kd.R_celln false HO4.out k HK0.out.1 (by have := HK0.out; omega)).1)
    clear q0 q1 q3 q4 r0 r1 r2 r3 d1 d2 d3 d4 hg1 hg2 hg3 HO4
    go_wp2_with ((with_reducible refine gate_dst (N := 93) rfl ?_); refine Stop.out ?_)
    refine ⟨?_⟩
    obtain ⟨k, rfl⟩ := Int.eq_ofNat_of_zero_le HK0.out.1
    have hkl : k < links.length := by have := HK0.out; have := HL.out; omega
    obtain ⟨y, hy⟩ : ∃ y, links[k]? = some y := ⟨links[k], List.getElem?_eq_getElem hkl⟩
    obtain ⟨al, rfl, hl0, hl1, hl2⟩ := read_l HR.out.2.2.2 HB4.out k y hy
    obtain ⟨s0, s1, s2⟩ := link_spec HV.out HAK.out hy
    have HY := Lib.hid hy
    obtain ⟨y0, y1, y2⟩ := y
    simp only at hl0 hl1 hl2 s0 s1 s2
    have HSP := Lib.hid (And.intro s0 (And.intro s1 s2))
    have b5 := P4.out.2.2.2.cell 0 _ rfl
    have k0 : (0 : Int) ≤ (k : Int) := by omega
    have k1 : (k : Int) < (links.length : Int) := by omega
    clear hy s0 s1 s2 hkl
    by_cases hst : by_.tmod 1073741789 = 0
    · have d0 : (by_.tmod 1073741789 != 0) = false := by simpa using hst
      clear hst
      go_wp2_with ((with_reducible refine gate_dst (N := 121) rfl ?_); refine Stop.out ?_)
      refine ⟨?_⟩
      obtain ⟨hxn, hsn, hbn⟩ := Blk.box w4 53 [Value.int IntKind.i64 y0, Value.int IntKind.i64 y1, Value.int IntKind.i64 y2]
      rw [show (List.toArray [Value.int IntKind.i64 y0, Value.int IntKind.i64 y1, Value.int IntKind.i64 y2]) = #[Value.int IntKind.i64 y0, Value.int IntKind.i64 y1, Value.int IntKind.i64 y2] from rfl] at hxn hsn hbn
      generalize w4.alloc (Obj.cells #[Value.int IntKind.i64 y0, Value.int IntKind.i64 y1, Value.int IntKind.i64 y2] 53) = w5 at hxn hsn hbn ⊢
      have PQ := Lib.hid (And.intro (P4.out.1.below hbn P4.out.1.lt) (And.intro (P4.out.2.1.below hbn P4.out.2.1.lt) (And.intro (P4.out.2.2.1.below hbn P4.out.2.2.1.lt) (And.intro (P4.out.2.2.2.below hbn P4.out.2.2.2.lt) hxn))))
      have HBQ := Lib.hid (HB4.out.trans (Below.mono hbn HB4.out.size))
      have HGQ := Lib.hid (show w5.heap[g]? = some (.cells cells 4 (0, 0)) from (hbn.block g (Array.getElem?_eq_some_iff.1 HCW.out.1).1).trans HCW.out.1)
      have HSZ := Lib.hid (show w.heap.size + 4 ≤ w4.heap.size by have := P4.out.2.2.2.lt; omega)
      clear hxn hsn hbn b1 b3 b4 b5 hl0 hl1 hl2 e0 e1 e2 d0
      have b4 := PQ.out.2.2.1.cell 2 _ rfl
      have b5 := PQ.out.2.2.2.1.cell 0 _ rfl
      have u0 := PQ.out.2.2.2.2.cell 0 _ rfl
      have u1 := PQ.out.2.2.2.2.cell 1 _ rfl
      have u2 := PQ.out.2.2.2.2.cell 2 _ rfl
      have f0 := PQ.out.2.2.2.2.frozen 0
      have f1 := PQ.out.2.2.2.2.frozen 1
      have f2 := PQ.out.2.2.2.2.frozen 2
      obtain ⟨alq, eq_, hl0, hl1, hl2⟩ := read_l HR.out.2.2.2 HBQ.out k _ HY.out
      cases eq_
      simp only at hl0 hl1 hl2
      go_wp2_with fail
      clear b4 b5 u0 u1 u2 f0 f1 f2 hl0 hl1 hl2
      have hne : ∀ B, B < w4.heap.size → B ≠ w4.heap.size := fun B h => Nat.ne_of_lt h
      have hxr := ((PQ.out.2.2.2.2.set 0 (.int .i64 y0)).set 1 (.int .i64 y1)).set 2 (.int .i64 y2)
      have oth : ∀ {B t vs}, Blk w5 B t vs → B < w4.heap.size → Blk (((w5.setCell ⟨w4.heap.size, 0, none⟩ (.int .i64 y0)).setCell ⟨w4.heap.size, 1, none⟩ (.int .i64 y1)).setCell ⟨w4.heap.size, 2, none⟩ (.int .i64 y2)) B t vs := fun h hB => ((h.other (hne _ hB) 0 _).other (hne _ hB) 1 _).other (hne _ hB) 2 _
      have q1 := oth PQ.out.1 (by have := HSZ.out; omega)
      have q2 := oth PQ.out.2.1 (by have := HSZ.out; omega)
      have q3 := oth PQ.out.2.2.1 (by have := HSZ.out; omega)
      have q4 := oth PQ.out.2.2.2.1 (by have := HSZ.out; omega)
      have q5 : Blk w5 g 4 cells.toList := by unfold Blk; exact HGQ.out
      have q5 := oth q5 (Array.getElem?_eq_some_iff.1 HCW.out.1).1
      have hw : w.heap.size ≤ w4.heap.size := by have := HSZ.out; omega
      have qb : Below w.heap.size w (((w5.setCell ⟨w4.heap.size, 0, none⟩ (.int .i64 y0)).setCell ⟨w4.heap.size, 1, none⟩ (.int .i64 y1)).setCell ⟨w4.heap.size, 2, none⟩ (.int .i64 y2)) := ((HBQ.out.setCell hw _).setCell hw _).setCell hw _
      generalize ((w5.setCell ⟨w4.heap.size, 0, none⟩ (.int .i64 y0)).setCell ⟨w4.heap.size, 1, none⟩ (.int .i64 y1)).setCell ⟨w4.heap.size, 2, none⟩ (.int .i64 y2) = wt at hxr q1 q2 q3 q4 q5 qb ⊢
      have PT := Lib.hid (And.intro q1 (And.intro q2 (And.intro q3 (And.intro q4 hxr))))
      have HBT := Lib.hid qb
      have HGT := Lib.hid (show wt.heap[g]? = some (.cells cells 4 (0, 0)) from q5)
      clear oth q1 q2 q3 q4 q5 qb hxr hne hw
      have b1 := PT.out.2.1.cell 0 _ rfl
      have b3 := PT.out.2.2.1.cell 1 _ rfl
      have b5 := PT.out.2.2.2.1.cell 0 _ rfl
      have hcg : wt.cell? ⟨g, k, none⟩ = some (.bool (rdOf false bits (k : Int))) := by
        have h1 := HCW.out.2
        rw [Int.toNat_natCast] at h1
        have e : wt.cell? ⟨g, k, none⟩ = w4.cell? ⟨g, k, none⟩ := by simp only [World.cell?, HGT.out, HCW.out.1]
        exact e.trans h1
      have kb : (k : Int) < (bits.length : Int) := by have := HL.out; omega
      have HCG2 := Lib.hid hcg
      clear hcg
      have hS : ∀ W, Held (fun W => Blk W (w.heap.size + 1) 24 [.slice Ai inn.length ci] ∧ Blk W (w.heap.size + 1 + 1) 28 [.slice A0 mid.length c0, .slice A1 out.length c1, .slice (some al) links.length c2]) W → W.cell? ⟨w.heap.size + 1, 0, none⟩ = some (.slice Ai inn.length ci) ∧ W.cell? ⟨w.heap.size + 1 + 1, 1, none⟩ = some (.slice A1 out.length c1) := fun W hW => ⟨hW.1.cell 0 _ rfl, hW.2.cell 1 _ rfl⟩
      refine wp_region_auto (fun W => Blk W (w.heap.size + 1) 24 [.slice Ai inn.length ci] ∧ Blk W (w.heap.size + 1 + 1) 28 [.slice A0 mid.length c0, .slice A1 out.length c1, .slice (some al) links.length c2]) ((0, none, none) :: (0, none, none) :: (0, none, none) :: (0, none, none) :: []) (by kernel_rfl) (by kernel_rfl) (fun _ _ d _ _ h => by cases d <;> exact h) ⟨PT.out.2.1.drew, PT.out.2.2.1.drew⟩ ?_
      repeat' (first
        | (with_reducible apply rel_pass
           focus (intro W hW; first | (go_simp; exact rfl) | go_simp)
           simp only [Act.put, List.setIfInBounds_toArray, List.set_cons_zero, List.set_cons_succ])
        | (with_reducible apply rel_yes
           focus (exact rfl))
        | (with_reducible apply rel_no
           focus (exact rfl)
           simp only [Act.put, List.setIfInBounds_toArray, List.set_cons_zero, List.set_cons_succ])
        | (with_reducible apply rel_askF
           focus (exact rfl)
           all_goals (intro hb; simp only [hb, Act.put, List.setIfInBounds_toArray, List.set_cons_zero, List.set_cons_succ]))
        | (with_reducible apply rel_askT
           focus (exact rfl)
           all_goals (intro hb; simp only [hb, Act.put, List.setIfInBounds_toArray, List.set_cons_zero, List.set_cons_succ]))
        | (with_reducible apply rel_front1)
        | (with_reducible apply rel_front2)
        | (with_reducible apply rel_front3)
        | (with_reducible apply rel_front4)
        | (with_reducible apply rel_front5)
        | (with_reducible apply rel_front6))
      apply rel_nil
      simp only [Exit.then, Exit.inBlock]
      have hcg2 := (Blk.drew (W := wt) (show Blk wt g 4 cells.toList from by unfold Blk; exact HGT.out)).cell k (.bool (rdOf false bits (k : Int))) (by have h := HCG2.out; simp only [World.cell?, HGT.out] at h; simpa using h)
      have b5d := PT.out.2.2.2.1.drew.cell 0 _ rfl
      cases hbit : rdOf false bits (k : Int) with
      | false =>
        rw [hbit] at hcg2
        have r0 : 0 ≤ y0 ∧ y0 < (inn.length : Int) := HSP.out.2.2 hbit
        have rl : y0 < (inn.length : Int) := by have := HL.out; omega
        have d0 : decide (y0 < 0) = false := decide_eq_false (by omega)
        have d1 : decide ((inn.length : Int) ≤ y0) = false := decide_eq_false (by omega)
        have r00 := r0.1
        have hpx := PT.out.2.2.2.2.drew
        have hpq := And.intro (PT.out.1.drew) (And.intro (PT.out.2.1.drew) (And.intro (PT.out.2.2.1.drew) (PT.out.2.2.2.1.drew)))
        have hbd : Below w.heap.size w wt.drew := HBT.out.drew
        have HBIT := Lib.hid hbit
        have gcg := hcg2
        obtain ⟨wv, hwv⟩ : ∃ W, W = wt.drew := ⟨_, rfl⟩
        rw [← hwv] at hpx hpq hbd gcg ⊢
        obtain ⟨av, ea, hv0, hv1⟩ := read_ci HR.out.1 hbd y0 r0.1 rl
        cases ea
        have kc := hpq.2.2.2.cell 0 _ rfl
        have x0 := hpx.cell 0 _ rfl
        have x1 := hpx.cell 1 _ rfl
        have x2 := hpx.cell 2 _ rfl
        have f0 := fun o => (hpx.alloc o).frozen 0
        have z0 := fun o => (hpx.alloc o).cell 0 _ rfl
        have HBD := Lib.hid hbd
        have HPX := Lib.hid hpx
        have HPQ := Lib.hid hpq
        have HW4 := Lib.hid hpx.lt
        clear hS b5d b1 b3 b5 hbd r0 HCG2 hpx hpq hwv hbit hcg2
        go_wp2_with fail
        have hw1 : wv.heap.size ≠ w4.heap.size := by have := HW4.out; omega
        have hwas := ((Blk.new wv 23 [Value.int IntKind.i64 (rd_T23 inn y0).f0, Value.int IntKind.i64 (rd_T23 inn y0).f1]).other hw1 0 (.int .i64 other))
        have hxb := (HPX.out.alloc (Obj.cells #[Value.int IntKind.i64 (rd_T23 inn y0).f0, Value.int IntKind.i64 (rd_T23 inn y0).f1] 23)).set 0 (.int .i64 other)
        have oth : ∀ {B t vs}, Blk wv B t vs → B < w4.heap.size → Blk ((wv.alloc (Obj.cells #[Value.int IntKind.i64 (rd_T23 inn y0).f0, Value.int IntKind.i64 (rd_T23 inn y0).f1] 23)).setCell ⟨w4.heap.size, 0, none⟩ (.int .i64 other)) B t vs := fun h hB => (h.alloc _).other (Nat.ne_of_lt hB) 0 _
        have q1 := oth HPQ.out.1 (by have := HSZ.out; omega)
        have q2 := oth HPQ.out.2.1 (by have := HSZ.out; omega)
        have q3 := oth HPQ.out.2.2.1 (by have := HSZ.out; omega)
        have q4 := oth HPQ.out.2.2.2 (by have := HSZ.out; omega)
        have hw : w.heap.size ≤ w4.heap.size := by have := HSZ.out; omega
        have qb : Below w.heap.size w ((wv.alloc (Obj.cells #[Value.int IntKind.i64 (rd_T23 inn y0).f0, Value.int IntKind.i64 (rd_T23 inn y0).f1] 23)).setCell ⟨w4.heap.size, 0, none⟩ (.int .i64 other)) := (HBD.out.alloc HBD.out.size _).setCell hw _
        rw [show (List.toArray [Value.int IntKind.i64 (rd_T23 inn y0).f0, Value.int IntKind.i64 (rd_T23 inn y0).f1]) = #[Value.int IntKind.i64 (rd_T23 inn y0).f0, Value.int IntKind.i64 (rd_T23 inn y0).f1] from rfl] at hwas
        generalize (wv.alloc (Obj.cells #[Value.int IntKind.i64 (rd_T23 inn y0).f0, Value.int IntKind.i64 (rd_T23 inn y0).f1] 23)).setCell ⟨w4.heap.size, 0, none⟩ (.int .i64 other) = wu at hwas hxb q1 q2 q3 q4 qb ⊢
        have HU := Lib.hid (And.intro q1 (And.intro q2 (And.intro q3 (And.intro q4 (And.intro hxb (And.intro qb hwas))))))
        clear hwas hxb q1 q2 q3 q4 qb oth hw hw1 x0 x1 x2 f0 z0 hv0 hv1 d0 d1 kc gcg
        have hS : ∀ W, Held (fun W => Below w.heap.size w W ∧ Blk W wv.heap.size 23 [.int .i64 (rd_T23 inn y0).f0, .int .i64 (rd_T23 inn y0).f1]) W → W.cell? ⟨wv.heap.size, 0, none⟩ = some (.int .i64 (rd_T23 inn y0).f0) ∧ W.cell? ⟨wv.heap.size, 1, none⟩ = some (.int .i64 (rd_T23 inn y0).f1) := fun W hW => ⟨hW.2.cell 0 _ rfl, hW.2.cell 1 _ rfl⟩
        by_cases o0 : 0 ≤ other
        · have g0 : decide (0 ≤ other) = true := decide_eq_true o0
          by_cases o1 : other < (inn.length : Int)
          · have g1 : decide (other < (inn.length : Int)) = true := decide_eq_true o1
            have ho : ∀ W, Held (fun W => Below w.heap.size w W ∧ Blk W wv.heap.size 23 [.int .i64 (rd_T23 inn y0).f0, .int .i64 (rd_T23 inn y0).f1]) W → W.cell? (av.add (other.toNat * 2)) = some (.int .i64 (rd_T23 inn other).f0) ∧ W.cell? ⟨(av.add (other.toNat * 2)).block, (av.add (other.toNat * 2)).off + 1, none⟩ = some (.int .i64 (rd_T23 inn other).f1) := fun W hW => by
              obtain ⟨ad, e, h2, h3⟩ := read_ci HR.out.1 hW.1 other o0 o1
              cases e
              exact ⟨h2, h3⟩
            cases t0 : ((rd_T23 inn other).f0 == (rd_T23 inn y0).f0) with
            | false =>
              have HNO := Lib.hid (show ¬ (0 ≤ other ∧ other < (inn.length : Int) ∧ rd_T23 inn other = rd_T23 inn y0) from fun h => by rw [h.2.2] at t0; simp at t0)
              refine wp_region_auto (fun W => Below w.heap.size w W ∧ Blk W wv.heap.size 23 [.int .i64 (rd_T23 inn y0).f0, .int .i64 (rd_T23 inn y0).f1]) ((0, none, none) :: (0, none, none) :: (0, none, none) :: (0, some (157, true), none) :: (0, some (157, true), none) :: (0, some (157, true), none) :: (0, some (157, true), none) :: (0, none, none) :: (0, none, none) :: (0, some (163, true), none) :: (0, some (163, true), none) :: (0, some (163, true), none) :: (0, some (163, true), none) :: (0, some (163, true), none) :: (0, some (163, true), none) :: (0, none, none) :: []) (by kernel_rfl) (by kernel_rfl) (fun _ _ d _ _ h => by cases d <;> exact h) ⟨HU.out.2.2.2.2.2.1.drew, HU.out.2.2.2.2.2.2.drew⟩ ?_
              repeat' (first
                | (with_reducible apply rel_pass
                   focus (intro W hW; first | (go_simp; exact rfl) | go_simp)
                   simp only [Act.put, List.setIfInBounds_toArray, List.set_cons_zero, List.set_cons_succ])
                | (with_reducible apply rel_yes
                   focus (exact rfl))
                | (with_reducible apply rel_no
                   focus (exact rfl)
                   simp only [Act.put, List.setIfInBounds_toArray, List.set_cons_zero, List.set_cons_succ])
                | (with_reducible apply rel_askF
                   focus (exact rfl)
                   all_goals (intro hb; simp only [hb, Act.put, List.setIfInBounds_toArray, List.set_cons_zero, List.set_cons_succ]))
                | (with_reducible apply rel_askT
                   focus (exact rfl)
                   all_goals (intro hb; simp only [hb, Act.put, List.setIfInBounds_toArray, List.set_cons_zero, List.set_cons_succ]))
                | (with_reducible apply rel_front1)
                | (with_reducible apply rel_front2)
                | (with_reducible apply rel_front3)
                | (with_reducible apply rel_front4)
                | (with_reducible apply rel_front5)
                | (with_reducible apply rel_front6))
              apply rel_nil
              simp only [Exit.then, Exit.inBlock]
              clear hS
              have HCH := Lib.hid (chkV_set HV.out HAK.out HY.out (x' := ⟨other, y1, y2⟩) (tamper_in (y := ⟨y0, y1, y2⟩) HQ.out HBIT.out HNO.out))
              have x0 := HU.out.2.2.2.2.1.drew.cell 0 _ rfl
              have x1 := HU.out.2.2.2.2.1.drew.cell 1 _ rfl
              have x2 := HU.out.2.2.2.2.1.drew.cell 2 _ rfl
              go_wp2_with fail
              refine (with_calls pub (some av) ci inn A0 c0 mid A1 c1 out (some al) c2 links k (by omega) (by have := HL.out; have := HK0.out; omega) ⟨other, y1, y2⟩ w.heap.size (w.heap.size + 1) (w.heap.size + 1 + 1) (w.heap.size + 1 + 1 + 1) false wu.drew (Kd.C_below HR.out.1 HU.out.2.2.2.2.2.1.drew) HC.out.1 (Kd.C_below HR.out.2.1 HU.out.2.2.2.2.2.1.drew) HC.out.2.1 (Kd.C_below HR.out.2.2.1 HU.out.2.2.2.2.2.1.drew) HC.out.2.2.1 (Kd.C_below HR.out.2.2.2 HU.out.2.2.2.2.2.1.drew) HC.out.2.2.2 (TabOk.below HT.out HU.out.2.2.2.2.2.1.drew) HU.out.1.drew HU.out.2.1.drew HU.out.2.2.1.drew HU.out.2.2.2.1.drew HCH.out).mono ?_
              rintro e wz ⟨rfl, hbz⟩
              have HBZ := Lib.hid (HU.out.2.2.2.2.2.1.drew.trans (Below.mono hbz HU.out.2.2.2.2.2.1.drew.size))
              clear hbz x0 x1 x2
              go_wp2_with fail
              go_ret
              exact ⟨rfl, HBZ.out⟩
            | true =>
              cases t1 : ((rd_T23 inn other).f1 == (rd_T23 inn y0).f1) with
              | false =>
                have HNO := Lib.hid (show ¬ (0 ≤ other ∧ other < (inn.length : Int) ∧ rd_T23 inn other = rd_T23 inn y0) from fun h => by rw [h.2.2] at t1; simp at t1)
                refine wp_region_auto (fun W => Below w.heap.size w W ∧ Blk W wv.heap.size 23 [.int .i64 (rd_T23 inn y0).f0, .int .i64 (rd_T23 inn y0).f1]) ((0, none, none) :: (0, none, none) :: (0, none, none) :: (0, some (157, true), none) :: (0, some (157, true), none) :: (0, some (157, true), none) :: (0, some (157, true), none) :: (0, none, none) :: (0, none, none) :: (0, some (163, true), none) :: (0, some (163, true), none) :: (0, some (163, true), none) :: (0, some (163, true), none) :: (0, some (163, true), none) :: (0, some (163, true), none) :: (0, none, none) :: []) (by kernel_rfl) (by kernel_rfl) (fun _ _ d _ _ h => by cases d <;> exact h) ⟨HU.out.2.2.2.2.2.1.drew, HU.out.2.2.2.2.2.2.drew⟩ ?_
                repeat' (first
                  | (with_reducible apply rel_pass
                     focus (intro W hW; first | (go_simp; exact rfl) | go_simp)
                     simp only [Act.put, List.setIfInBounds_toArray, List.set_cons_zero, List.set_cons_succ])
                  | (with_reducible apply rel_yes
                     focus (exact rfl))
                  | (with_reducible apply rel_no
                     focus (exact rfl)
                     simp only [Act.put, List.setIfInBounds_toArray, List.set_cons_zero, List.set_cons_succ])
                  | (with_reducible apply rel_askF
                     focus (exact rfl)
                     all_goals (intro hb; simp only [hb, Act.put, List.setIfInBounds_toArray, List.set_cons_zero, List.set_cons_succ]))
                  | (with_reducible apply rel_askT
                     focus (exact rfl)
                     all_goals (intro hb; simp only [hb, Act.put, List.setIfInBounds_toArray, List.set_cons_zero, List.set_cons_succ]))
                  | (with_reducible apply rel_front1)
                  | (with_reducible apply rel_front2)
                  | (with_reducible apply rel_front3)
                  | (with_reducible apply rel_front4)
                  | (with_reducible apply rel_front5)
                  | (with_reducible apply rel_front6))
                apply rel_nil
                simp only [Exit.then, Exit.inBlock]
                clear hS
                have HCH := Lib.hid (chkV_set HV.out HAK.out HY.out (x' := ⟨other, y1, y2⟩) (tamper_in (y := ⟨y0, y1, y2⟩) HQ.out HBIT.out HNO.out))
                have x0 := HU.out.2.2.2.2.1.drew.cell 0 _ rfl
                have x1 := HU.out.2.2.2.2.1.drew.cell 1 _ rfl
                have x2 := HU.out.2.2.2.2.1.drew.cell 2 _ rfl
                go_wp2_with fail
                refine (with_calls pub (some av) ci inn A0 c0 mid A1 c1 out (some al) c2 links k (by omega) (by have := HL.out; have := HK0.out; omega) ⟨other, y1, y2⟩ w.heap.size (w.heap.size + 1) (w.heap.size + 1 + 1) (w.heap.size + 1 + 1 + 1) false wu.drew (Kd.C_below HR.out.1 HU.out.2.2.2.2.2.1.drew) HC.out.1 (Kd.C_below HR.out.2.1 HU.out.2.2.2.2.2.1.drew) HC.out.2.1 (Kd.C_below HR.out.2.2.1 HU.out.2.2.2.2.2.1.drew) HC.out.2.2.1 (Kd.C_below HR.out.2.2.2 HU.out.2.2.2.2.2.1.drew) HC.out.2.2.2 (TabOk.below HT.out HU.out.2.2.2.2.2.1.drew) HU.out.1.drew HU.out.2.1.drew HU.out.2.2.1.drew HU.out.2.2.2.1.drew HCH.out).mono ?_
                rintro e wz ⟨rfl, hbz⟩
                have HBZ := Lib.hid (HU.out.2.2.2.2.2.1.drew.trans (Below.mono hbz HU.out.2.2.2.2.2.1.drew.size))
                clear hbz x0 x1 x2
                go_wp2_with fail
                go_ret
                exact ⟨rfl, HBZ.out⟩
              | true =>
                refine wp_region_auto (fun W => Below w.heap.size w W ∧ Blk W wv.heap.size 23 [.int .i64 (rd_T23 inn y0).f0, .int .i64 (rd_T23 inn y0).f1]) ((0, none, none) :: (0, none, none) :: (0, none, none) :: (0, some (157, true), none) :: (0, some (157, true), none) :: (0, some (157, true), none) :: (0, some (157, true), none) :: (0, none, none) :: (0, none, none) :: (0, some (163, true), none) :: (0, some (163, true), none) :: (0, some (163, true), none) :: (0, some (163, true), none) :: (0, some (163, true), none) :: (0, some (163, true), none) :: (0, none, none) :: []) (by kernel_rfl) (by kernel_rfl) (fun _ _ d _ _ h => by cases d <;> exact h) ⟨HU.out.2.2.2.2.2.1.drew, HU.out.2.2.2.2.2.2.drew⟩ ?_
                repeat' (first
                  | (with_reducible apply rel_pass
                     focus (intro W hW; first | (go_simp; exact rfl) | go_simp)
                     simp only [Act.put, List.setIfInBounds_toArray, List.set_cons_zero, List.set_cons_succ])
                  | (with_reducible apply rel_yes
                     focus (exact rfl))
                  | (with_reducible apply rel_no
                     focus (exact rfl)
                     simp only [Act.put, List.setIfInBounds_toArray, List.set_cons_zero, List.set_cons_succ])
                  | (with_reducible apply rel_askF
                     focus (exact rfl)
                     all_goals (intro hb; simp only [hb, Act.put, List.setIfInBounds_toArray, List.set_cons_zero, List.set_cons_succ]))
                  | (with_reducible apply rel_askT
                     focus (exact rfl)
                     all_goals (intro hb; simp only [hb, Act.put, List.setIfInBounds_toArray, List.set_cons_zero, List.set_cons_succ]))
                  | (with_reducible apply rel_front1)
                  | (with_reducible apply rel_front2)
                  | (with_reducible apply rel_front3)
                  | (with_reducible apply rel_front4)
                  | (with_reducible apply rel_front5)
                  | (with_reducible apply rel_front6))
                apply rel_nil
                simp only [Exit.then, Exit.inBlock]
                go_wp2_with fail
                go_ret
                exact ⟨rfl, HU.out.2.2.2.2.2.1.drew⟩
          · have g1 : decide (other < (inn.length : Int)) = false := decide_eq_false o1
            have HNO := Lib.hid (show ¬ (0 ≤ other ∧ other < (inn.length : Int) ∧ rd_T23 inn other = rd_T23 inn y0) from fun h => o1 (by have := HL.out; omega))
            refine wp_region_auto (fun W => Below w.heap.size w W ∧ Blk W wv.heap.size 23 [.int .i64 (rd_T23 inn y0).f0, .int .i64 (rd_T23 inn y0).f1]) ((0, none, none) :: (0, none, none) :: (0, none, none) :: (0, some (157, true), none) :: (0, some (157, true), none) :: (0, some (157, true), none) :: (0, some (157, true), none) :: (0, none, none) :: (0, none, none) :: (0, some (163, true), none) :: (0, some (163, true), none) :: (0, some (163, true), none) :: (0, some (163, true), none) :: (0, some (163, true), none) :: (0, some (163, true), none) :: (0, none, none) :: []) (by kernel_rfl) (by kernel_rfl) (fun _ _ d _ _ h => by cases d <;> exact h) ⟨HU.out.2.2.2.2.2.1.drew, HU.out.2.2.2.2.2.2.drew⟩ ?_
            repeat' (first
              | (with_reducible apply rel_pass
                 focus (intro W hW; first | (go_simp; exact rfl) | go_simp)
                 simp only [Act.put, List.setIfInBounds_toArray, List.set_cons_zero, List.set_cons_succ])
              | (with_reducible apply rel_yes
                 focus (exact rfl))
              | (with_reducible apply rel_no
                 focus (exact rfl)
                 simp only [Act.put, List.setIfInBounds_toArray, List.set_cons_zero, List.set_cons_succ])
              | (with_reducible apply rel_askF
                 focus (exact rfl)
                 all_goals (intro hb; simp only [hb, Act.put, List.setIfInBounds_toArray, List.set_cons_zero, List.set_cons_succ]))
              | (with_reducible apply rel_askT
                 focus (exact rfl)
                 all_goals (intro hb; simp only [hb, Act.put, List.setIfInBounds_toArray, List.set_cons_zero, List.set_cons_succ]))
              | (with_reducible apply rel_front1)
              | (with_reducible apply rel_front2)
              | (with_reducible apply rel_front3)
              | (with_reducible apply rel_front4)
              | (with_reducible apply rel_front5)
              | (with_reducible apply rel_front6))
            apply rel_nil
            simp only [Exit.then, Exit.inBlock]
            clear hS
            have HCH := Lib.hid (chkV_set HV.out HAK.out HY.out (x' := ⟨other, y1, y2⟩) (tamper_in (y := ⟨y0, y1, y2⟩) HQ.out HBIT.out HNO.out))
            have x0 := HU.out.2.2.2.2.1.drew.cell 0 _ rfl
            have x1 := HU.out.2.2.2.2.1.drew.cell 1 _ rfl
            have x2 := HU.out.2.2.2.2.1.drew.cell 2 _ rfl
            go_wp2_with fail
            refine (with_calls pub (some av) ci inn A0 c0 mid A1 c1 out (some al) c2 links k (by omega) (by have := HL.out; have := HK0.out; omega) ⟨other, y1, y2⟩ w.heap.size (w.heap.size + 1) (w.heap.size + 1 + 1) (w.heap.size + 1 + 1 + 1) false wu.drew (Kd.C_below HR.out.1 HU.out.2.2.2.2.2.1.drew) HC.out.1 (Kd.C_below HR.out.2.1 HU.out.2.2.2.2.2.1.drew) HC.out.2.1 (Kd.C_below HR.out.2.2.1 HU.out.2.2.2.2.2.1.drew) HC.out.2.2.1 (Kd.C_below HR.out.2.2.2 HU.out.2.2.2.2.2.1.drew) HC.out.2.2.2 (TabOk.below HT.out HU.out.2.2.2.2.2.1.drew) HU.out.1.drew HU.out.2.1.drew HU.out.2.2.1.drew HU.out.2.2.2.1.drew HCH.out).mono ?_
            rintro e wz ⟨rfl, hbz⟩
            have HBZ := Lib.hid (HU.out.2.2.2.2.2.1.drew.trans (Below.mono hbz HU.out.2.2.2.2.2.1.drew.size))
            clear hbz x0 x1 x2
            go_wp2_with fail
            go_ret
            exact ⟨rfl, HBZ.out⟩
        · have g0 : decide (0 ≤ other) = false := decide_eq_false o0
          have HNO := Lib.hid (show ¬ (0 ≤ other ∧ other < (inn.length : Int) ∧ rd_T23 inn other = rd_T23 inn y0) from fun h => o0 h.1)
          refine wp_region_auto (fun W => Below w.heap.size w W ∧ Blk W wv.heap.size 23 [.int .i64 (rd_T23 inn y0).f0, .int .i64 (rd_T23 inn y0).f1]) ((0, none, none) :: (0, none, none) :: (0, none, none) :: (0, some (157, true), none) :: (0, some (157, true), none) :: (0, some (157, true), none) :: (0, some (157, true), none) :: (0, none, none) :: (0, none, none) :: (0, some (163, true), none) :: (0, some (163, true), none) :: (0, some (163, true), none) :: (0, some (163, true), none) :: (0, some (163, true), none) :: (0, some (163, true), none) :: (0, none, none) :: []) (by kernel_rfl) (by kernel_rfl) (fun _ _ d _ _ h => by cases d <;> exact h) ⟨HU.out.2.2.2.2.2.1.drew, HU.out.2.2.2.2.2.2.drew⟩ ?_
          repeat' (first
            | (with_reducible apply rel_pass
               focus (intro W hW; first | (go_simp; exact rfl) | go_simp)
               simp only [Act.put, List.setIfInBounds_toArray, List.set_cons_zero, List.set_cons_succ])
            | (with_reducible apply rel_yes
               focus (exact rfl))
            | (with_reducible apply rel_no
               focus (exact rfl)
               simp only [Act.put, List.setIfInBounds_toArray, List.set_cons_zero, List.set_cons_succ])
            | (with_reducible apply rel_askF
               focus (exact rfl)
               all_goals (intro hb; simp only [hb, Act.put, List.setIfInBounds_toArray, List.set_cons_zero, List.set_cons_succ]))
            | (with_reducible apply rel_askT
               focus (exact rfl)
               all_goals (intro hb; simp only [hb, Act.put, List.setIfInBounds_toArray, List.set_cons_zero, List.set_cons_succ]))
            | (with_reducible apply rel_front1)
            | (with_reducible apply rel_front2)
            | (with_reducible apply rel_front3)
            | (with_reducible apply rel_front4)
            | (with_reducible apply rel_front5)
            | (with_reducible apply rel_front6))
          apply rel_nil
          simp only [Exit.then, Exit.inBlock]
          clear hS
          have HCH := Lib.hid (chkV_set HV.out HAK.out HY.out (x' := ⟨other, y1, y2⟩) (tamper_in (y := ⟨y0, y1, y2⟩) HQ.out HBIT.out HNO.out))
          have x0 := HU.out.2.2.2.2.1.drew.cell 0 _ rfl
          have x1 := HU.out.2.2.2.2.1.drew.cell 1 _ rfl
          have x2 := HU.out.2.2.2.2.1.drew.cell 2 _ rfl
          go_wp2_with fail
          refine (with_calls pub (some av) ci inn A0 c0 mid A1 c1 out (some al) c2 links k (by omega) (by have := HL.out; have := HK0.out; omega) ⟨other, y1, y2⟩ w.heap.size (w.heap.size + 1) (w.heap.size + 1 + 1) (w.heap.size + 1 + 1 + 1) false wu.drew (Kd.C_below HR.out.1 HU.out.2.2.2.2.2.1.drew) HC.out.1 (Kd.C_below HR.out.2.1 HU.out.2.2.2.2.2.1.drew) HC.out.2.1 (Kd.C_below HR.out.2.2.1 HU.out.2.2.2.2.2.1.drew) HC.out.2.2.1 (Kd.C_below HR.out.2.2.2 HU.out.2.2.2.2.2.1.drew) HC.out.2.2.2 (TabOk.below HT.out HU.out.2.2.2.2.2.1.drew) HU.out.1.drew HU.out.2.1.drew HU.out.2.2.1.drew HU.out.2.2.2.1.drew HCH.out).mono ?_
          rintro e wz ⟨rfl, hbz⟩
          have HBZ := Lib.hid (HU.out.2.2.2.2.2.1.drew.trans (Below.mono hbz HU.out.2.2.2.2.2.1.drew.size))
          clear hbz x0 x1 x2
          go_wp2_with fail
          go_ret
          exact ⟨rfl, HBZ.out⟩
      | true =>
        rw [hbit] at hcg2
        go_wp2_with fail
        refine wp_region_auto (fun W => Blk W (w.heap.size + 1) 24 [.slice Ai inn.length ci] ∧ Blk W (w.heap.size + 1 + 1) 28 [.slice A0 mid.length c0, .slice A1 out.length c1, .slice (some al) links.length c2]) ((0, none, none) :: (0, none, none) :: (0, none, none) :: (0, none, none) :: (0, none, none) :: []) (by kernel_rfl) (by kernel_rfl) (fun _ _ d _ _ h => by cases d <;> exact h) ⟨PT.out.2.1.drew.drew, PT.out.2.2.1.drew.drew⟩ ?_
        repeat' (first
          | (with_reducible apply rel_pass
             focus (intro W hW; first | (go_simp; exact rfl) | go_simp)
             simp only [Act.put, List.setIfInBounds_toArray, List.set_cons_zero, List.set_cons_succ])
          | (with_reducible apply rel_yes
             focus (exact rfl))
          | (with_reducible apply rel_no
             focus (exact rfl)
             simp only [Act.put, List.setIfInBounds_toArray, List.set_cons_zero, List.set_cons_succ])
          | (with_reducible apply rel_askF
             focus (exact rfl)
             all_goals (intro hb; simp only [hb, Act.put, List.setIfInBounds_toArray, List.set_cons_zero, List.set_cons_succ]))
          | (with_reducible apply rel_askT
             focus (exact rfl)
             all_goals (intro hb; simp only [hb, Act.put, List.setIfInBounds_toArray, List.set_cons_zero, List.set_cons_succ]))
          | (with_reducible apply rel_front1)
          | (with_reducible apply rel_front2)
          | (with_reducible apply rel_front3)
          | (with_reducible apply rel_front4)
          | (with_reducible apply rel_front5)
          | (with_reducible apply rel_front6))
        apply rel_nil
        simp only [Exit.then, Exit.inBlock]
        have r0 : 0 ≤ y1 ∧ y1 < (inn.length : Int) := HSP.out.2.1 hbit
        have rl : y1 < (out.length : Int) := by have := HL.out; omega
        have d0 : decide (y1 < 0) = false := decide_eq_false (by omega)
        have d1 : decide ((out.length : Int) ≤ y1) = false := decide_eq_false (by omega)
        have r00 := r0.1
        have hpx := PT.out.2.2.2.2.drew.drew
        have hpq := And.intro (PT.out.1.drew.drew) (And.intro (PT.out.2.1.drew.drew) (And.intro (PT.out.2.2.1.drew.drew) (PT.out.2.2.2.1.drew.drew)))
        have hbd : Below w.heap.size w wt.drew.drew := HBT.out.drew.drew
        have HBIT := Lib.hid hbit
        
        obtain ⟨wv, hwv⟩ : ∃ W, W = wt.drew.drew := ⟨_, rfl⟩
        rw [← hwv] at hpx hpq hbd  ⊢
        obtain ⟨av, ea, hv0, hv1⟩ := read_ci HR.out.2.2.1 hbd y1 r0.1 rl
        cases ea
        
        have x0 := hpx.cell 0 _ rfl
        have x1 := hpx.cell 1 _ rfl
        have x2 := hpx.cell 2 _ rfl
        have f0 := fun o => (hpx.alloc o).frozen 1
        have z0 := fun o => (hpx.alloc o).cell 1 _ rfl
        have HBD := Lib.hid hbd
        have HPX := Lib.hid hpx
        have HPQ := Lib.hid hpq
        have HW4 := Lib.hid hpx.lt
        clear hS b5d b1 b3 b5 hbd r0 HCG2 hpx hpq hwv hbit 
        go_wp2_with fail
        have hw1 : wv.heap.size ≠ w4.heap.size := by have := HW4.out; omega
        have hwas := ((Blk.new wv 23 [Value.int IntKind.i64 (rd_T23 out y1).f0, Value.int IntKind.i64 (rd_T23 out y1).f1]).other hw1 1 (.int .i64 other))
        have hxb := (HPX.out.alloc (Obj.cells #[Value.int IntKind.i64 (rd_T23 out y1).f0, Value.int IntKind.i64 (rd_T23 out y1).f1] 23)).set 1 (.int .i64 other)
        have oth : ∀ {B t vs}, Blk wv B t vs → B < w4.heap.size → Blk ((wv.alloc (Obj.cells #[Value.int IntKind.i64 (rd_T23 out y1).f0, Value.int IntKind.i64 (rd_T23 out y1).f1] 23)).setCell ⟨w4.heap.size, 1, none⟩ (.int .i64 other)) B t vs := fun h hB => (h.alloc _).other (Nat.ne_of_lt hB) 1 _
        have q1 := oth HPQ.out.1 (by have := HSZ.out; omega)
        have q2 := oth HPQ.out.2.1 (by have := HSZ.out; omega)
        have q3 := oth HPQ.out.2.2.1 (by have := HSZ.out; omega)
        have q4 := oth HPQ.out.2.2.2 (by have := HSZ.out; omega)
        have hw : w.heap.size ≤ w4.heap.size := by have := HSZ.out; omega
        have qb : Below w.heap.size w ((wv.alloc (Obj.cells #[Value.int IntKind.i64 (rd_T23 out y1).f0, Value.int IntKind.i64 (rd_T23 out y1).f1] 23)).setCell ⟨w4.heap.size, 1, none⟩ (.int .i64 other)) := (HBD.out.alloc HBD.out.size _).setCell hw _
        rw [show (List.toArray [Value.int IntKind.i64 (rd_T23 out y1).f0, Value.int IntKind.i64 (rd_T23 out y1).f1]) = #[Value.int IntKind.i64 (rd_T23 out y1).f0, Value.int IntKind.i64 (rd_T23 out y1).f1] from rfl] at hwas
        generalize (wv.alloc (Obj.cells #[Value.int IntKind.i64 (rd_T23 out y1).f0, Value.int IntKind.i64 (rd_T23 out y1).f1] 23)).setCell ⟨w4.heap.size, 1, none⟩ (.int .i64 other) = wu at hwas hxb q1 q2 q3 q4 qb ⊢
        have HU := Lib.hid (And.intro q1 (And.intro q2 (And.intro q3 (And.intro q4 (And.intro hxb (And.intro qb hwas))))))
        clear hwas hxb q1 q2 q3 q4 qb oth hw hw1 x0 x1 x2 f0 z0 hv0 hv1 d0 d1 
        have hS : ∀ W, Held (fun W => Below w.heap.size w W ∧ Blk W wv.heap.size 23 [.int .i64 (rd_T23 out y1).f0, .int .i64 (rd_T23 out y1).f1]) W → W.cell? ⟨wv.heap.size, 0, none⟩ = some (.int .i64 (rd_T23 out y1).f0) ∧ W.cell? ⟨wv.heap.size, 1, none⟩ = some (.int .i64 (rd_T23 out y1).f1) := fun W hW => ⟨hW.2.cell 0 _ rfl, hW.2.cell 1 _ rfl⟩
        by_cases o0 : 0 ≤ other
        · have g0 : decide (0 ≤ other) = true := decide_eq_true o0
          by_cases o1 : other < (out.length : Int)
          · have g1 : decide (other < (out.length : Int)) = true := decide_eq_true o1
            have ho : ∀ W, Held (fun W => Below w.heap.size w W ∧ Blk W wv.heap.size 23 [.int .i64 (rd_T23 out y1).f0, .int .i64 (rd_T23 out y1).f1]) W → W.cell? (av.add (other.toNat * 2)) = some (.int .i64 (rd_T23 out other).f0) ∧ W.cell? ⟨(av.add (other.toNat * 2)).block, (av.add (other.toNat * 2)).off + 1, none⟩ = some (.int .i64 (rd_T23 out other).f1) := fun W hW => by
              obtain ⟨ad, e, h2, h3⟩ := read_ci HR.out.2.2.1 hW.1 other o0 o1
              cases e
              exact ⟨h2, h3⟩
            cases t0 : ((rd_T23 out other).f0 == (rd_T23 out y1).f0) with
            | false =>
              have HNO := Lib.hid (show ¬ (0 ≤ other ∧ other < (inn.length : Int) ∧ rd_T23 out other = rd_T23 out y1) from fun h => by rw [h.2.2] at t0; simp at t0)
              refine wp_region_auto (fun W => Below w.heap.size w W ∧ Blk W wv.heap.size 23 [.int .i64 (rd_T23 out y1).f0, .int .i64 (rd_T23 out y1).f1]) ((0, none, none) :: (0, none, none) :: (0, none, none) :: (0, some (157, true), none) :: (0, some (157, true), none) :: (0, some (157, true), none) :: (0, some (157, true), none) :: (0, none, none) :: (0, none, none) :: (0, some (163, true), none) :: (0, some (163, true), none) :: (0, some (163, true), none) :: (0, some (163, true), none) :: (0, some (163, true), none) :: (0, some (163, true), none) :: (0, none, none) :: []) (by kernel_rfl) (by kernel_rfl) (fun _ _ d _ _ h => by cases d <;> exact h) ⟨HU.out.2.2.2.2.2.1.drew, HU.out.2.2.2.2.2.2.drew⟩ ?_
              repeat' (first
                | (with_reducible apply rel_pass
                   focus (intro W hW; first | (go_simp; exact rfl) | go_simp)
                   simp only [Act.put, List.setIfInBounds_toArray, List.set_cons_zero, List.set_cons_succ])
                | (with_reducible apply rel_yes
                   focus (exact rfl))
                | (with_reducible apply rel_no
                   focus (exact rfl)
                   simp only [Act.put, List.setIfInBounds_toArray, List.set_cons_zero, List.set_cons_succ])
                | (with_reducible apply rel_askF
                   focus (exact rfl)
                   all_goals (intro hb; simp only [hb, Act.put, List.setIfInBounds_toArray, List.set_cons_zero, List.set_cons_succ]))
                | (with_reducible apply rel_askT
                   focus (exact rfl)
                   all_goals (intro hb; simp only [hb, Act.put, List.setIfInBounds_toArray, List.set_cons_zero, List.set_cons_succ]))
                | (with_reducible apply rel_front1)
                | (with_reducible apply rel_front2)
                | (with_reducible apply rel_front3)
                | (with_reducible apply rel_front4)
                | (with_reducible apply rel_front5)
                | (with_reducible apply rel_front6))
              apply rel_nil
              simp only [Exit.then, Exit.inBlock]
              clear hS
              have HCH := Lib.hid (chkV_set HV.out HAK.out HY.out (x' := ⟨y0, other, y2⟩) (tamper_out (y := ⟨y0, y1, y2⟩) HBIT.out HNO.out))
              have x0 := HU.out.2.2.2.2.1.drew.cell 0 _ rfl
              have x1 := HU.out.2.2.2.2.1.drew.cell 1 _ rfl
              have x2 := HU.out.2.2.2.2.1.drew.cell 2 _ rfl
              go_wp2_with fail
              refine (with_calls pub Ai ci inn A0 c0 mid (some av) c1 out (some al) c2 links k (by omega) (by have := HL.out; have := HK0.out; omega) ⟨y0, other, y2⟩ w.heap.size (w.heap.size + 1) (w.heap.size + 1 + 1) (w.heap.size + 1 + 1 + 1) false wu.drew (Kd.C_below HR.out.1 HU.out.2.2.2.2.2.1.drew) HC.out.1 (Kd.C_below HR.out.2.1 HU.out.2.2.2.2.2.1.drew) HC.out.2.1 (Kd.C_below HR.out.2.2.1 HU.out.2.2.2.2.2.1.drew) HC.out.2.2.1 (Kd.C_below HR.out.2.2.2 HU.out.2.2.2.2.2.1.drew) HC.out.2.2.2 (TabOk.below HT.out HU.out.2.2.2.2.2.1.drew) HU.out.1.drew HU.out.2.1.drew HU.out.2.2.1.drew HU.out.2.2.2.1.drew HCH.out).mono ?_
              rintro e wz ⟨rfl, hbz⟩
              have HBZ := Lib.hid (HU.out.2.2.2.2.2.1.drew.trans (Below.mono hbz HU.out.2.2.2.2.2.1.drew.size))
              clear hbz x0 x1 x2
              go_wp2_with fail
              go_ret
              exact ⟨rfl, HBZ.out⟩
            | true =>
              cases t1 : ((rd_T23 out other).f1 == (rd_T23 out y1).f1) with
              | false =>
                have HNO := Lib.hid (show ¬ (0 ≤ other ∧ other < (inn.length : Int) ∧ rd_T23 out other = rd_T23 out y1) from fun h => by rw [h.2.2] at t1; simp at t1)
                refine wp_region_auto (fun W => Below w.heap.size w W ∧ Blk W wv.heap.size 23 [.int .i64 (rd_T23 out y1).f0, .int .i64 (rd_T23 out y1).f1]) ((0, none, none) :: (0, none, none) :: (0, none, none) :: (0, some (157, true), none) :: (0, some (157, true), none) :: (0, some (157, true), none) :: (0, some (157, true), none) :: (0, none, none) :: (0, none, none) :: (0, some (163, true), none) :: (0, some (163, true), none) :: (0, some (163, true), none) :: (0, some (163, true), none) :: (0, some (163, true), none) :: (0, some (163, true), none) :: (0, none, none) :: []) (by kernel_rfl) (by kernel_rfl) (fun _ _ d _ _ h => by cases d <;> exact h) ⟨HU.out.2.2.2.2.2.1.drew, HU.out.2.2.2.2.2.2.drew⟩ ?_
                repeat' (first
                  | (with_reducible apply rel_pass
                     focus (intro W hW; first | (go_simp; exact rfl) | go_simp)
                     simp only [Act.put, List.setIfInBounds_toArray, List.set_cons_zero, List.set_cons_succ])
                  | (with_reducible apply rel_yes
                     focus (exact rfl))
                  | (with_reducible apply rel_no
                     focus (exact rfl)
                     simp only [Act.put, List.setIfInBounds_toArray, List.set_cons_zero, List.set_cons_succ])
                  | (with_reducible apply rel_askF
                     focus (exact rfl)
                     all_goals (intro hb; simp only [hb, Act.put, List.setIfInBounds_toArray, List.set_cons_zero, List.set_cons_succ]))
                  | (with_reducible apply rel_askT
                     focus (exact rfl)
                     all_goals (intro hb; simp only [hb, Act.put, List.setIfInBounds_toArray, List.set_cons_zero, List.set_cons_succ]))
                  | (with_reducible apply rel_front1)
                  | (with_reducible apply rel_front2)
                  | (with_reducible apply rel_front3)
                  | (with_reducible apply rel_front4)
                  | (with_reducible apply rel_front5)
                  | (with_reducible apply rel_front6))
                apply rel_nil
                simp only [Exit.then, Exit.inBlock]
                clear hS
                have HCH := Lib.hid (chkV_set HV.out HAK.out HY.out (x' := ⟨y0, other, y2⟩) (tamper_out (y := ⟨y0, y1, y2⟩) HBIT.out HNO.out))
                have x0 := HU.out.2.2.2.2.1.drew.cell 0 _ rfl
                have x1 := HU.out.2.2.2.2.1.drew.cell 1 _ rfl
                have x2 := HU.out.2.2.2.2.1.drew.cell 2 _ rfl
                go_wp2_with fail
                refine (with_calls pub Ai ci inn A0 c0 mid (some av) c1 out (some al) c2 links k (by omega) (by have := HL.out; have := HK0.out; omega) ⟨y0, other, y2⟩ w.heap.size (w.heap.size + 1) (w.heap.size + 1 + 1) (w.heap.size + 1 + 1 + 1) false wu.drew (Kd.C_below HR.out.1 HU.out.2.2.2.2.2.1.drew) HC.out.1 (Kd.C_below HR.out.2.1 HU.out.2.2.2.2.2.1.drew) HC.out.2.1 (Kd.C_below HR.out.2.2.1 HU.out.2.2.2.2.2.1.drew) HC.out.2.2.1 (Kd.C_below HR.out.2.2.2 HU.out.2.2.2.2.2.1.drew) HC.out.2.2.2 (TabOk.below HT.out HU.out.2.2.2.2.2.1.drew) HU.out.1.drew HU.out.2.1.drew HU.out.2.2.1.drew HU.out.2.2.2.1.drew HCH.out).mono ?_
                rintro e wz ⟨rfl, hbz⟩
                have HBZ := Lib.hid (HU.out.2.2.2.2.2.1.drew.trans (Below.mono hbz HU.out.2.2.2.2.2.1.drew.size))
                clear hbz x0 x1 x2
                go_wp2_with fail
                go_ret
                exact ⟨rfl, HBZ.out⟩
              | true =>
                refine wp_region_auto (fun W => Below w.heap.size w W ∧ Blk W wv.heap.size 23 [.int .i64 (rd_T23 out y1).f0, .int .i64 (rd_T23 out y1).f1]) ((0, none, none) :: (0, none, none) :: (0, none, none) :: (0, some (157, true), none) :: (0, some (157, true), none) :: (0, some (157, true), none) :: (0, some (157, true), none) :: (0, none, none) :: (0, none, none) :: (0, some (163, true), none) :: (0, some (163, true), none) :: (0, some (163, true), none) :: (0, some (163, true), none) :: (0, some (163, true), none) :: (0, some (163, true), none) :: (0, none, none) :: []) (by kernel_rfl) (by kernel_rfl) (fun _ _ d _ _ h => by cases d <;> exact h) ⟨HU.out.2.2.2.2.2.1.drew, HU.out.2.2.2.2.2.2.drew⟩ ?_
                repeat' (first
                  | (with_reducible apply rel_pass
                     focus (intro W hW; first | (go_simp; exact rfl) | go_simp)
                     simp only [Act.put, List.setIfInBounds_toArray, List.set_cons_zero, List.set_cons_succ])
                  | (with_reducible apply rel_yes
                     focus (exact rfl))
                  | (with_reducible apply rel_no
                     focus (exact rfl)
                     simp only [Act.put, List.setIfInBounds_toArray, List.set_cons_zero, List.set_cons_succ])
                  | (with_reducible apply rel_askF
                     focus (exact rfl)
                     all_goals (intro hb; simp only [hb, Act.put, List.setIfInBounds_toArray, List.set_cons_zero, List.set_cons_succ]))
                  | (with_reducible apply rel_askT
                     focus (exact rfl)
                     all_goals (intro hb; simp only [hb, Act.put, List.setIfInBounds_toArray, List.set_cons_zero, List.set_cons_succ]))
                  | (with_reducible apply rel_front1)
                  | (with_reducible apply rel_front2)
                  | (with_reducible apply rel_front3)
                  | (with_reducible apply rel_front4)
                  | (with_reducible apply rel_front5)
                  | (with_reducible apply rel_front6))
                apply rel_nil
                simp only [Exit.then, Exit.inBlock]
                go_wp2_with fail
                go_ret
                exact ⟨rfl, HU.out.2.2.2.2.2.1.drew⟩
          · have g1 : decide (other < (out.length : Int)) = false := decide_eq_false o1
            have HNO := Lib.hid (show ¬ (0 ≤ other ∧ other < (inn.length : Int) ∧ rd_T23 out other = rd_T23 out y1) from fun h => o1 (by have := HL.out; omega))
            refine wp_region_auto (fun W => Below w.heap.size w W ∧ Blk W wv.heap.size 23 [.int .i64 (rd_T23 out y1).f0, .int .i64 (rd_T23 out y1).f1]) ((0, none, none) :: (0, none, none) :: (0, none, none) :: (0, some (157, true), none) :: (0, some (157, true), none) :: (0, some (157, true), none) :: (0, some (157, true), none) :: (0, none, none) :: (0, none, none) :: (0, some (163, true), none) :: (0, some (163, true), none) :: (0, some (163, true), none) :: (0, some (163, true), none) :: (0, some (163, true), none) :: (0, some (163, true), none) :: (0, none, none) :: []) (by kernel_rfl) (by kernel_rfl) (fun _ _ d _ _ h => by cases d <;> exact h) ⟨HU.out.2.2.2.2.2.1.drew, HU.out.2.2.2.2.2.2.drew⟩ ?_
            repeat' (first
              | (with_reducible apply rel_pass
                 focus (intro W hW; first | (go_simp; exact rfl) | go_simp)
                 simp only [Act.put, List.setIfInBounds_toArray, List.set_cons_zero, List.set_cons_succ])
              | (with_reducible apply rel_yes
                 focus (exact rfl))
              | (with_reducible apply rel_no
                 focus (exact rfl)
                 simp only [Act.put, List.setIfInBounds_toArray, List.set_cons_zero, List.set_cons_succ])
              | (with_reducible apply rel_askF
                 focus (exact rfl)
                 all_goals (intro hb; simp only [hb, Act.put, List.setIfInBounds_toArray, List.set_cons_zero, List.set_cons_succ]))
              | (with_reducible apply rel_askT
                 focus (exact rfl)
                 all_goals (intro hb; simp only [hb, Act.put, List.setIfInBounds_toArray, List.set_cons_zero, List.set_cons_succ]))
              | (with_reducible apply rel_front1)
              | (with_reducible apply rel_front2)
              | (with_reducible apply rel_front3)
              | (with_reducible apply rel_front4)
              | (with_reducible apply rel_front5)
              | (with_reducible apply rel_front6))
            apply rel_nil
            simp only [Exit.then, Exit.inBlock]
            clear hS
            have HCH := Lib.hid (chkV_set HV.out HAK.out HY.out (x' := ⟨y0, other, y2⟩) (tamper_out (y := ⟨y0, y1, y2⟩) HBIT.out HNO.out))
            have x0 := HU.out.2.2.2.2.1.drew.cell 0 _ rfl
            have x1 := HU.out.2.2.2.2.1.drew.cell 1 _ rfl
            have x2 := HU.out.2.2.2.2.1.drew.cell 2 _ rfl
            go_wp2_with fail
            refine (with_calls pub Ai ci inn A0 c0 mid (some av) c1 out (some al) c2 links k (by omega) (by have := HL.out; have := HK0.out; omega) ⟨y0, other, y2⟩ w.heap.size (w.heap.size + 1) (w.heap.size + 1 + 1) (w.heap.size + 1 + 1 + 1) false wu.drew (Kd.C_below HR.out.1 HU.out.2.2.2.2.2.1.drew) HC.out.1 (Kd.C_below HR.out.2.1 HU.out.2.2.2.2.2.1.drew) HC.out.2.1 (Kd.C_below HR.out.2.2.1 HU.out.2.2.2.2.2.1.drew) HC.out.2.2.1 (Kd.C_below HR.out.2.2.2 HU.out.2.2.2.2.2.1.drew) HC.out.2.2.2 (TabOk.below HT.out HU.out.2.2.2.2.2.1.drew) HU.out.1.drew HU.out.2.1.drew HU.out.2.2.1.drew HU.out.2.2.2.1.drew HCH.out).mono ?_
            rintro e wz ⟨rfl, hbz⟩
            have HBZ := Lib.hid (HU.out.2.2.2.2.2.1.drew.trans (Below.mono hbz HU.out.2.2.2.2.2.1.drew.size))
            clear hbz x0 x1 x2
            go_wp2_with fail
            go_ret
            exact ⟨rfl, HBZ.out⟩
        · have g0 : decide (0 ≤ other) = false := decide_eq_false o0
          have HNO := Lib.hid (show ¬ (0 ≤ other ∧ other < (inn.length : Int) ∧ rd_T23 out other = rd_T23 out y1) from fun h => o0 h.1)
          refine wp_region_auto (fun W => Below w.heap.size w W ∧ Blk W wv.heap.size 23 [.int .i64 (rd_T23 out y1).f0, .int .i64 (rd_T23 out y1).f1]) ((0, none, none) :: (0, none, none) :: (0, none, none) :: (0, some (157, true), none) :: (0, some (157, true), none) :: (0, some (157, true), none) :: (0, some (157, true), none) :: (0, none, none) :: (0, none, none) :: (0, some (163, true), none) :: (0, some (163, true), none) :: (0, some (163, true), none) :: (0, some (163, true), none) :: (0, some (163, true), none) :: (0, some (163, true), none) :: (0, none, none) :: []) (by kernel_rfl) (by kernel_rfl) (fun _ _ d _ _ h => by cases d <;> exact h) ⟨HU.out.2.2.2.2.2.1.drew, HU.out.2.2.2.2.2.2.drew⟩ ?_
          repeat' (first
            | (with_reducible apply rel_pass
               focus (intro W hW; first | (go_simp; exact rfl) | go_simp)
               simp only [Act.put, List.setIfInBounds_toArray, List.set_cons_zero, List.set_cons_succ])
            | (with_reducible apply rel_yes
               focus (exact rfl))
            | (with_reducible apply rel_no
               focus (exact rfl)
               simp only [Act.put, List.setIfInBounds_toArray, List.set_cons_zero, List.set_cons_succ])
            | (with_reducible apply rel_askF
               focus (exact rfl)
               all_goals (intro hb; simp only [hb, Act.put, List.setIfInBounds_toArray, List.set_cons_zero, List.set_cons_succ]))
            | (with_reducible apply rel_askT
               focus (exact rfl)
               all_goals (intro hb; simp only [hb, Act.put, List.setIfInBounds_toArray, List.set_cons_zero, List.set_cons_succ]))
            | (with_reducible apply rel_front1)
            | (with_reducible apply rel_front2)
            | (with_reducible apply rel_front3)
            | (with_reducible apply rel_front4)
            | (with_reducible apply rel_front5)
            | (with_reducible apply rel_front6))
          apply rel_nil
          simp only [Exit.then, Exit.inBlock]
          clear hS
          have HCH := Lib.hid (chkV_set HV.out HAK.out HY.out (x' := ⟨y0, other, y2⟩) (tamper_out (y := ⟨y0, y1, y2⟩) HBIT.out HNO.out))
          have x0 := HU.out.2.2.2.2.1.drew.cell 0 _ rfl
          have x1 := HU.out.2.2.2.2.1.drew.cell 1 _ rfl
          have x2 := HU.out.2.2.2.2.1.drew.cell 2 _ rfl
          go_wp2_with fail
          refine (with_calls pub Ai ci inn A0 c0 mid (some av) c1 out (some al) c2 links k (by omega) (by have := HL.out; have := HK0.out; omega) ⟨y0, other, y2⟩ w.heap.size (w.heap.size + 1) (w.heap.size + 1 + 1) (w.heap.size + 1 + 1 + 1) false wu.drew (Kd.C_below HR.out.1 HU.out.2.2.2.2.2.1.drew) HC.out.1 (Kd.C_below HR.out.2.1 HU.out.2.2.2.2.2.1.drew) HC.out.2.1 (Kd.C_below HR.out.2.2.1 HU.out.2.2.2.2.2.1.drew) HC.out.2.2.1 (Kd.C_below HR.out.2.2.2 HU.out.2.2.2.2.2.1.drew) HC.out.2.2.2 (TabOk.below HT.out HU.out.2.2.2.2.2.1.drew) HU.out.1.drew HU.out.2.1.drew HU.out.2.2.1.drew HU.out.2.2.2.1.drew HCH.out).mono ?_
          rintro e wz ⟨rfl, hbz⟩
          have HBZ := Lib.hid (HU.out.2.2.2.2.2.1.drew.trans (Below.mono hbz HU.out.2.2.2.2.2.1.drew.size))
          clear hbz x0 x1 x2
          go_wp2_with fail
          go_ret
          exact ⟨rfl, HBZ.out⟩
    · have d0 : (by_.tmod 1073741789 != 0) = true := by simpa using hst
      obtain ⟨s, hs⟩ : ∃ s, s = (wrap64 (wrap64 (y2 + by_.tmod 1073741789) + 1073741789)).tmod 1073741789 := ⟨_, rfl⟩
      have hne : s ≠ y2 := by
        have q := expB_lt HSP.out.1
        have t1 : -1073741789 < by_.tmod 1073741789 := Int.lt_tmod_of_pos _ (by omega)
        have t2 : by_.tmod 1073741789 < 1073741789 := Int.tmod_lt_of_pos _ (by omega)
        rw [hs, wrap_id (a := y2 + by_.tmod 1073741789) (by omega) (by omega), wrap_id (by omega) (by omega), tmod_nat _ _ (by omega) (by omega)]
        omega
      have HCH := Lib.hid (chkV_set HV.out HAK.out HY.out (x' := ⟨y0, y1, s⟩) (tamper_r (y := ⟨y0, y1, y2⟩) hne))
      clear hst hne
      go_wp2_with fail
      rw [← hs]
      obtain ⟨hxn, hsn, hbn⟩ := Blk.box w4 53 [Value.int IntKind.i64 y0, Value.int IntKind.i64 y1, Value.int IntKind.i64 s]
      rw [show (List.toArray [Value.int IntKind.i64 y0, Value.int IntKind.i64 y1, Value.int IntKind.i64 s]) = #[Value.int IntKind.i64 y0, Value.int IntKind.i64 y1, Value.int IntKind.i64 s] from rfl] at hxn hsn hbn
      generalize w4.alloc (Obj.cells #[Value.int IntKind.i64 y0, Value.int IntKind.i64 y1, Value.int IntKind.i64 s] 53) = w5 at hxn hsn hbn ⊢
      have PR := Lib.hid (And.intro (P4.out.1.below hbn P4.out.1.lt) (And.intro (P4.out.2.1.below hbn P4.out.2.1.lt) (And.intro (P4.out.2.2.1.below hbn P4.out.2.2.1.lt) (And.intro (P4.out.2.2.2.below hbn P4.out.2.2.2.lt) hxn))))
      have HBR := Lib.hid (HB4.out.trans (Below.mono hbn HB4.out.size))
      refine (with_calls pub Ai ci inn A0 c0 mid A1 c1 out (some al) c2 links k (by omega) (by have := HL.out; have := HK0.out; omega) ⟨y0, y1, s⟩ w.heap.size (w.heap.size + 1) (w.heap.size + 1 + 1) (w.heap.size + 1 + 1 + 1) false w5 (Kd.C_below HR.out.1 HBR.out) HC.out.1 (Kd.C_below HR.out.2.1 HBR.out) HC.out.2.1 (Kd.C_below HR.out.2.2.1 HBR.out) HC.out.2.2.1 (Kd.C_below HR.out.2.2.2 HBR.out) HC.out.2.2.2 (TabOk.below HT.out HBR.out) PR.out.1 PR.out.2.1 PR.out.2.2.1 PR.out.2.2.2.1 HCH.out).mono ?_
      rintro e w6 ⟨rfl, hb6⟩
      have PQ := Lib.hid (And.intro (PR.out.1.below hb6 PR.out.1.lt) (And.intro (PR.out.2.1.below hb6 PR.out.2.1.lt) (And.intro (PR.out.2.2.1.below hb6 PR.out.2.2.1.lt) (And.intro (PR.out.2.2.2.1.below hb6 PR.out.2.2.2.1.lt) (PR.out.2.2.2.2.below hb6 PR.out.2.2.2.2.lt)))))
      have HBQ := Lib.hid (HBR.out.trans (Below.mono hb6 HBR.out.size))
      have HGQ := Lib.hid (show w6.heap[g]? = some (.cells cells 4 (0, 0)) from ((hbn.trans (Below.mono hb6 (by omega))).block g (Array.getElem?_eq_some_iff.1 HCW.out.1).1).trans HCW.out.1)
      have HSZ := Lib.hid (show w.heap.size + 4 ≤ w4.heap.size by have := P4.out.2.2.2.lt; omega)
      clear hxn hsn hbn hb6 b1 b3 b4 b5 hl0 hl1 hl2 e0 e1 e2 d0 PR HBR HCH
      have b4 := PQ.out.2.2.1.cell 2 _ rfl
      have b5 := PQ.out.2.2.2.1.cell 0 _ rfl
      have u0 := PQ.out.2.2.2.2.cell 0 _ rfl
      have u1 := PQ.out.2.2.2.2.cell 1 _ rfl
      have u2 := PQ.out.2.2.2.2.cell 2 _ rfl
      have f0 := PQ.out.2.2.2.2.frozen 0
      have f1 := PQ.out.2.2.2.2.frozen 1
      have f2 := PQ.out.2.2.2.2.frozen 2
      obtain ⟨alq, eq_, hl0, hl1, hl2⟩ := read_l HR.out.2.2.2 HBQ.out k _ HY.out
      cases eq_
      simp only at hl0 hl1 hl2
      go_wp2_with fail
      clear b4 b5 u0 u1 u2 f0 f1 f2 hl0 hl1 hl2
      have hne : ∀ B, B < w4.heap.size → B ≠ w4.heap.size := fun B h => Nat.ne_of_lt h
      have hxr := ((PQ.out.2.2.2.2.set 0 (.int .i64 y0)).set 1 (.int .i64 y1)).set 2 (.int .i64 y2)
      have oth : ∀ {B t vs}, Blk w6 B t vs → B < w4.heap.size → Blk (((w6.setCell ⟨w4.heap.size, 0, none⟩ (.int .i64 y0)).setCell ⟨w4.heap.size, 1, none⟩ (.int .i64 y1)).setCell ⟨w4.heap.size, 2, none⟩ (.int .i64 y2)) B t vs := fun h hB => ((h.other (hne _ hB) 0 _).other (hne _ hB) 1 _).other (hne _ hB) 2 _
      have q1 := oth PQ.out.1 (by have := HSZ.out; omega)
      have q2 := oth PQ.out.2.1 (by have := HSZ.out; omega)
      have q3 := oth PQ.out.2.2.1 (by have := HSZ.out; omega)
      have q4 := oth PQ.out.2.2.2.1 (by have := HSZ.out; omega)
      have q5 : Blk w6 g 4 cells.toList := by unfold Blk; exact HGQ.out
      have q5 := oth q5 (Array.getElem?_eq_some_iff.1 HCW.out.1).1
      have hw : w.heap.size ≤ w4.heap.size := by have := HSZ.out; omega
      have qb : Below w.heap.size w (((w6.setCell ⟨w4.heap.size, 0, none⟩ (.int .i64 y0)).setCell ⟨w4.heap.size, 1, none⟩ (.int .i64 y1)).setCell ⟨w4.heap.size, 2, none⟩ (.int .i64 y2)) := ((HBQ.out.setCell hw _).setCell hw _).setCell hw _
      generalize ((w6.setCell ⟨w4.heap.size, 0, none⟩ (.int .i64 y0)).setCell ⟨w4.heap.size, 1, none⟩ (.int .i64 y1)).setCell ⟨w4.heap.size, 2, none⟩ (.int .i64 y2) = wt at hxr q1 q2 q3 q4 q5 qb ⊢
      have PT := Lib.hid (And.intro q1 (And.intro q2 (And.intro q3 (And.intro q4 hxr))))
      have HBT := Lib.hid qb
      have HGT := Lib.hid (show wt.heap[g]? = some (.cells cells 4 (0, 0)) from q5)
      clear oth q1 q2 q3 q4 q5 qb hxr hne hw
      have b1 := PT.out.2.1.cell 0 _ rfl
      have b3 := PT.out.2.2.1.cell 1 _ rfl
      have b5 := PT.out.2.2.2.1.cell 0 _ rfl
      have hcg : wt.cell? ⟨g, k, none⟩ = some (.bool (rdOf false bits (k : Int))) := by
        have h1 := HCW.out.2
        rw [Int.toNat_natCast] at h1
        have e : wt.cell? ⟨g, k, none⟩ = w4.cell? ⟨g, k, none⟩ := by simp only [World.cell?, HGT.out, HCW.out.1]
        exact e.trans h1
      have kb : (k : Int) < (bits.length : Int) := by have := HL.out; omega
      have HCG2 := Lib.hid hcg
      clear hcg
      have hS : ∀ W, Held (fun W => Blk W (w.heap.size + 1) 24 [.slice Ai inn.length ci] ∧ Blk W (w.heap.size + 1 + 1) 28 [.slice A0 mid.length c0, .slice A1 out.length c1, .slice (some al) links.length c2]) W → W.cell? ⟨w.heap.size + 1, 0, none⟩ = some (.slice Ai inn.length ci) ∧ W.cell? ⟨w.heap.size + 1 + 1, 1, none⟩ = some (.slice A1 out.length c1) := fun W hW => ⟨hW.1.cell 0 _ rfl, hW.2.cell 1 _ rfl⟩
      refine wp_region_auto (fun W => Blk W (w.heap.size + 1) 24 [.slice Ai inn.length ci] ∧ Blk W (w.heap.size + 1 + 1) 28 [.slice A0 mid.length c0, .slice A1 out.length c1, .slice (some al) links.length c2]) ((0, none, none) :: (0, none, none) :: (0, none, none) :: (0, none, none) :: []) (by kernel_rfl) (by kernel_rfl) (fun _ _ d _ _ h => by cases d <;> exact h) ⟨PT.out.2.1.drew, PT.out.2.2.1.drew⟩ ?_
      repeat' (first
        | (with_reducible apply rel_pass
           focus (intro W hW; first | (go_simp; exact rfl) | go_simp)
           simp only [Act.put, List.setIfInBounds_toArray, List.set_cons_zero, List.set_cons_succ])
        | (with_reducible apply rel_yes
           focus (exact rfl))
        | (with_reducible apply rel_no
           focus (exact rfl)
           simp only [Act.put, List.setIfInBounds_toArray, List.set_cons_zero, List.set_cons_succ])
        | (with_reducible apply rel_askF
           focus (exact rfl)
           all_goals (intro hb; simp only [hb, Act.put, List.setIfInBounds_toArray, List.set_cons_zero, List.set_cons_succ]))
        | (with_reducible apply rel_askT
           focus (exact rfl)
           all_goals (intro hb; simp only [hb, Act.put, List.setIfInBounds_toArray, List.set_cons_zero, List.set_cons_succ]))
        | (with_reducible apply rel_front1)
        | (with_reducible apply rel_front2)
        | (with_reducible apply rel_front3)
        | (with_reducible apply rel_front4)
        | (with_reducible apply rel_front5)
        | (with_reducible apply rel_front6))
      apply rel_nil
      simp only [Exit.then, Exit.inBlock]
      have hcg2 := (Blk.drew (W := wt) (show Blk wt g 4 cells.toList from by unfold Blk; exact HGT.out)).cell k (.bool (rdOf false bits (k : Int))) (by have h := HCG2.out; simp only [World.cell?, HGT.out] at h; simpa using h)
      have b5d := PT.out.2.2.2.1.drew.cell 0 _ rfl
      cases hbit : rdOf false bits (k : Int) with
      | false =>
        rw [hbit] at hcg2
        have r0 : 0 ≤ y0 ∧ y0 < (inn.length : Int) := HSP.out.2.2 hbit
        have rl : y0 < (inn.length : Int) := by have := HL.out; omega
        have d0 : decide (y0 < 0) = false := decide_eq_false (by omega)
        have d1 : decide ((inn.length : Int) ≤ y0) = false := decide_eq_false (by omega)
        have r00 := r0.1
        have hpx := PT.out.2.2.2.2.drew
        have hpq := And.intro (PT.out.1.drew) (And.intro (PT.out.2.1.drew) (And.intro (PT.out.2.2.1.drew) (PT.out.2.2.2.1.drew)))
        have hbd : Below w.heap.size w wt.drew := HBT.out.drew
        have HBIT := Lib.hid hbit
        have gcg := hcg2
        obtain ⟨wv, hwv⟩ : ∃ W, W = wt.drew := ⟨_, rfl⟩
        rw [← hwv] at hpx hpq hbd gcg ⊢
        obtain ⟨av, ea, hv0, hv1⟩ := read_ci HR.out.1 hbd y0 r0.1 rl
        cases ea
        have kc := hpq.2.2.2.cell 0 _ rfl
        have x0 := hpx.cell 0 _ rfl
        have x1 := hpx.cell 1 _ rfl
        have x2 := hpx.cell 2 _ rfl
        have f0 := fun o => (hpx.alloc o).frozen 0
        have z0 := fun o => (hpx.alloc o).cell 0 _ rfl
        have HBD := Lib.hid hbd
        have HPX := Lib.hid hpx
        have HPQ := Lib.hid hpq
        have HW4 := Lib.hid hpx.lt
        clear hS b5d b1 b3 b5 hbd r0 HCG2 hpx hpq hwv hbit hcg2
        go_wp2_with fail
        have hw1 : wv.heap.size ≠ w4.heap.size := by have := HW4.out; omega
        have hwas := ((Blk.new wv 23 [Value.int IntKind.i64 (rd_T23 inn y0).f0, Value.int IntKind.i64 (rd_T23 inn y0).f1]).other hw1 0 (.int .i64 other))
        have hxb := (HPX.out.alloc (Obj.cells #[Value.int IntKind.i64 (rd_T23 inn y0).f0, Value.int IntKind.i64 (rd_T23 inn y0).f1] 23)).set 0 (.int .i64 other)
        have oth : ∀ {B t vs}, Blk wv B t vs → B < w4.heap.size → Blk ((wv.alloc (Obj.cells #[Value.int IntKind.i64 (rd_T23 inn y0).f0, Value.int IntKind.i64 (rd_T23 inn y0).f1] 23)).setCell ⟨w4.heap.size, 0, none⟩ (.int .i64 other)) B t vs := fun h hB => (h.alloc _).other (Nat.ne_of_lt hB) 0 _
        have q1 := oth HPQ.out.1 (by have := HSZ.out; omega)
        have q2 := oth HPQ.out.2.1 (by have := HSZ.out; omega)
        have q3 := oth HPQ.out.2.2.1 (by have := HSZ.out; omega)
        have q4 := oth HPQ.out.2.2.2 (by have := HSZ.out; omega)
        have hw : w.heap.size ≤ w4.heap.size := by have := HSZ.out; omega
        have qb : Below w.heap.size w ((wv.alloc (Obj.cells #[Value.int IntKind.i64 (rd_T23 inn y0).f0, Value.int IntKind.i64 (rd_T23 inn y0).f1] 23)).setCell ⟨w4.heap.size, 0, none⟩ (.int .i64 other)) := (HBD.out.alloc HBD.out.size _).setCell hw _
        rw [show (List.toArray [Value.int IntKind.i64 (rd_T23 inn y0).f0, Value.int IntKind.i64 (rd_T23 inn y0).f1]) = #[Value.int IntKind.i64 (rd_T23 inn y0).f0, Value.int IntKind.i64 (rd_T23 inn y0).f1] from rfl] at hwas
        generalize (wv.alloc (Obj.cells #[Value.int IntKind.i64 (rd_T23 inn y0).f0, Value.int IntKind.i64 (rd_T23 inn y0).f1] 23)).setCell ⟨w4.heap.size, 0, none⟩ (.int .i64 other) = wu at hwas hxb q1 q2 q3 q4 qb ⊢
        have HU := Lib.hid (And.intro q1 (And.intro q2 (And.intro q3 (And.intro q4 (And.intro hxb (And.intro qb hwas))))))
        clear hwas hxb q1 q2 q3 q4 qb oth hw hw1 x0 x1 x2 f0 z0 hv0 hv1 d0 d1 kc gcg
        have hS : ∀ W, Held (fun W => Below w.heap.size w W ∧ Blk W wv.heap.size 23 [.int .i64 (rd_T23 inn y0).f0, .int .i64 (rd_T23 inn y0).f1]) W → W.cell? ⟨wv.heap.size, 0, none⟩ = some (.int .i64 (rd_T23 inn y0).f0) ∧ W.cell? ⟨wv.heap.size, 1, none⟩ = some (.int .i64 (rd_T23 inn y0).f1) := fun W hW => ⟨hW.2.cell 0 _ rfl, hW.2.cell 1 _ rfl⟩
        by_cases o0 : 0 ≤ other
        · have g0 : decide (0 ≤ other) = true := decide_eq_true o0
          by_cases o1 : other < (inn.length : Int)
          · have g1 : decide (other < (inn.length : Int)) = true := decide_eq_true o1
            have ho : ∀ W, Held (fun W => Below w.heap.size w W ∧ Blk W wv.heap.size 23 [.int .i64 (rd_T23 inn y0).f0, .int .i64 (rd_T23 inn y0).f1]) W → W.cell? (av.add (other.toNat * 2)) = some (.int .i64 (rd_T23 inn other).f0) ∧ W.cell? ⟨(av.add (other.toNat * 2)).block, (av.add (other.toNat * 2)).off + 1, none⟩ = some (.int .i64 (rd_T23 inn other).f1) := fun W hW => by
              obtain ⟨ad, e, h2, h3⟩ := read_ci HR.out.1 hW.1 other o0 o1
              cases e
              exact ⟨h2, h3⟩
            cases t0 : ((rd_T23 inn other).f0 == (rd_T23 inn y0).f0) with
            | false =>
              have HNO := Lib.hid (show ¬ (0 ≤ other ∧ other < (inn.length : Int) ∧ rd_T23 inn other = rd_T23 inn y0) from fun h => by rw [h.2.2] at t0; simp at t0)
              refine wp_region_auto (fun W => Below w.heap.size w W ∧ Blk W wv.heap.size 23 [.int .i64 (rd_T23 inn y0).f0, .int .i64 (rd_T23 inn y0).f1]) ((0, none, none) :: (0, none, none) :: (0, none, none) :: (0, some (157, true), none) :: (0, some (157, true), none) :: (0, some (157, true), none) :: (0, some (157, true), none) :: (0, none, none) :: (0, none, none) :: (0, some (163, true), none) :: (0, some (163, true), none) :: (0, some (163, true), none) :: (0, some (163, true), none) :: (0, some (163, true), none) :: (0, some (163, true), none) :: (0, none, none) :: []) (by kernel_rfl) (by kernel_rfl) (fun _ _ d _ _ h => by cases d <;> exact h) ⟨HU.out.2.2.2.2.2.1.drew, HU.out.2.2.2.2.2.2.drew⟩ ?_
              repeat' (first
                | (with_reducible apply rel_pass
                   focus (intro W hW; first | (go_simp; exact rfl) | go_simp)
                   simp only [Act.put, List.setIfInBounds_toArray, List.set_cons_zero, List.set_cons_succ])
                | (with_reducible apply rel_yes
                   focus (exact rfl))
                | (with_reducible apply rel_no
                   focus (exact rfl)
                   simp only [Act.put, List.setIfInBounds_toArray, List.set_cons_zero, List.set_cons_succ])
                | (with_reducible apply rel_askF
                   focus (exact rfl)
                   all_goals (intro hb; simp only [hb, Act.put, List.setIfInBounds_toArray, List.set_cons_zero, List.set_cons_succ]))
                | (with_reducible apply rel_askT
                   focus (exact rfl)
                   all_goals (intro hb; simp only [hb, Act.put, List.setIfInBounds_toArray, List.set_cons_zero, List.set_cons_succ]))
                | (with_reducible apply rel_front1)
                | (with_reducible apply rel_front2)
                | (with_reducible apply rel_front3)
                | (with_reducible apply rel_front4)
                | (with_reducible apply rel_front5)
                | (with_reducible apply rel_front6))
              apply rel_nil
              simp only [Exit.then, Exit.inBlock]
              clear hS
              have HCH := Lib.hid (chkV_set HV.out HAK.out HY.out (x' := ⟨other, y1, y2⟩) (tamper_in (y := ⟨y0, y1, y2⟩) HQ.out HBIT.out HNO.out))
              have x0 := HU.out.2.2.2.2.1.drew.cell 0 _ rfl
              have x1 := HU.out.2.2.2.2.1.drew.cell 1 _ rfl
              have x2 := HU.out.2.2.2.2.1.drew.cell 2 _ rfl
              go_wp2_with fail
              refine (with_calls pub (some av) ci inn A0 c0 mid A1 c1 out (some al) c2 links k (by omega) (by have := HL.out; have := HK0.out; omega) ⟨other, y1, y2⟩ w.heap.size (w.heap.size + 1) (w.heap.size + 1 + 1) (w.heap.size + 1 + 1 + 1) false wu.drew (Kd.C_below HR.out.1 HU.out.2.2.2.2.2.1.drew) HC.out.1 (Kd.C_below HR.out.2.1 HU.out.2.2.2.2.2.1.drew) HC.out.2.1 (Kd.C_below HR.out.2.2.1 HU.out.2.2.2.2.2.1.drew) HC.out.2.2.1 (Kd.C_below HR.out.2.2.2 HU.out.2.2.2.2.2.1.drew) HC.out.2.2.2 (TabOk.below HT.out HU.out.2.2.2.2.2.1.drew) HU.out.1.drew HU.out.2.1.drew HU.out.2.2.1.drew HU.out.2.2.2.1.drew HCH.out).mono ?_
              rintro e wz ⟨rfl, hbz⟩
              have HBZ := Lib.hid (HU.out.2.2.2.2.2.1.drew.trans (Below.mono hbz HU.out.2.2.2.2.2.1.drew.size))
              clear hbz x0 x1 x2
              go_wp2_with fail
              go_ret
              exact ⟨rfl, HBZ.out⟩
            | true =>
              cases t1 : ((rd_T23 inn other).f1 == (rd_T23 inn y0).f1) with
              | false =>
                have HNO := Lib.hid (show ¬ (0 ≤ other ∧ other < (inn.length : Int) ∧ rd_T23 inn other = rd_T23 inn y0) from fun h => by rw [h.2.2] at t1; simp at t1)
                refine wp_region_auto (fun W => Below w.heap.size w W ∧ Blk W wv.heap.size 23 [.int .i64 (rd_T23 inn y0).f0, .int .i64 (rd_T23 inn y0).f1]) ((0, none, none) :: (0, none, none) :: (0, none, none) :: (0, some (157, true), none) :: (0, some (157, true), none) :: (0, some (157, true), none) :: (0, some (157, true), none) :: (0, none, none) :: (0, none, none) :: (0, some (163, true), none) :: (0, some (163, true), none) :: (0, some (163, true), none) :: (0, some (163, true), none) :: (0, some (163, true), none) :: (0, some (163, true), none) :: (0, none, none) :: []) (by kernel_rfl) (by kernel_rfl) (fun _ _ d _ _ h => by cases d <;> exact h) ⟨HU.out.2.2.2.2.2.1.drew, HU.out.2.2.2.2.2.2.drew⟩ ?_
                repeat' (first
                  | (with_reducible apply rel_pass
                     focus (intro W hW; first | (go_simp; exact rfl) | go_simp)
                     simp only [Act.put, List.setIfInBounds_toArray, List.set_cons_zero, List.set_cons_succ])
                  | (with_reducible apply rel_yes
                     focus (exact rfl))
                  | (with_reducible apply rel_no
                     focus (exact rfl)
                     simp only [Act.put, List.setIfInBounds_toArray, List.set_cons_zero, List.set_cons_succ])
                  | (with_reducible apply rel_askF
                     focus (exact rfl)
                     all_goals (intro hb; simp only [hb, Act.put, List.setIfInBounds_toArray, List.set_cons_zero, List.set_cons_succ]))
                  | (with_reducible apply rel_askT
                     focus (exact rfl)
                     all_goals (intro hb; simp only [hb, Act.put, List.setIfInBounds_toArray, List.set_cons_zero, List.set_cons_succ]))
                  | (with_reducible apply rel_front1)
                  | (with_reducible apply rel_front2)
                  | (with_reducible apply rel_front3)
                  | (with_reducible apply rel_front4)
                  | (with_reducible apply rel_front5)
                  | (with_reducible apply rel_front6))
                apply rel_nil
                simp only [Exit.then, Exit.inBlock]
                clear hS
                have HCH := Lib.hid (chkV_set HV.out HAK.out HY.out (x' := ⟨other, y1, y2⟩) (tamper_in (y := ⟨y0, y1, y2⟩) HQ.out HBIT.out HNO.out))
                have x0 := HU.out.2.2.2.2.1.drew.cell 0 _ rfl
                have x1 := HU.out.2.2.2.2.1.drew.cell 1 _ rfl
                have x2 := HU.out.2.2.2.2.1.drew.cell 2 _ rfl
                go_wp2_with fail
                refine (with_calls pub (some av) ci inn A0 c0 mid A1 c1 out (some al) c2 links k (by omega) (by have := HL.out; have := HK0.out; omega) ⟨other, y1, y2⟩ w.heap.size (w.heap.size + 1) (w.heap.size + 1 + 1) (w.heap.size + 1 + 1 + 1) false wu.drew (Kd.C_below HR.out.1 HU.out.2.2.2.2.2.1.drew) HC.out.1 (Kd.C_below HR.out.2.1 HU.out.2.2.2.2.2.1.drew) HC.out.2.1 (Kd.C_below HR.out.2.2.1 HU.out.2.2.2.2.2.1.drew) HC.out.2.2.1 (Kd.C_below HR.out.2.2.2 HU.out.2.2.2.2.2.1.drew) HC.out.2.2.2 (TabOk.below HT.out HU.out.2.2.2.2.2.1.drew) HU.out.1.drew HU.out.2.1.drew HU.out.2.2.1.drew HU.out.2.2.2.1.drew HCH.out).mono ?_
                rintro e wz ⟨rfl, hbz⟩
                have HBZ := Lib.hid (HU.out.2.2.2.2.2.1.drew.trans (Below.mono hbz HU.out.2.2.2.2.2.1.drew.size))
                clear hbz x0 x1 x2
                go_wp2_with fail
                go_ret
                exact ⟨rfl, HBZ.out⟩
              | true =>
                refine wp_region_auto (fun W => Below w.heap.size w W ∧ Blk W wv.heap.size 23 [.int .i64 (rd_T23 inn y0).f0, .int .i64 (rd_T23 inn y0).f1]) ((0, none, none) :: (0, none, none) :: (0, none, none) :: (0, some (157, true), none) :: (0, some (157, true), none) :: (0, some (157, true), none) :: (0, some (157, true), none) :: (0, none, none) :: (0, none, none) :: (0, some (163, true), none) :: (0, some (163, true), none) :: (0, some (163, true), none) :: (0, some (163, true), none) :: (0, some (163, true), none) :: (0, some (163, true), none) :: (0, none, none) :: []) (by kernel_rfl) (by kernel_rfl) (fun _ _ d _ _ h => by cases d <;> exact h) ⟨HU.out.2.2.2.2.2.1.drew, HU.out.2.2.2.2.2.2.drew⟩ ?_
                repeat' (first
                  | (with_reducible apply rel_pass
                     focus (intro W hW; first | (go_simp; exact rfl) | go_simp)
                     simp only [Act.put, List.setIfInBounds_toArray, List.set_cons_zero, List.set_cons_succ])
                  | (with_reducible apply rel_yes
                     focus (exact rfl))
                  | (with_reducible apply rel_no
                     focus (exact rfl)
                     simp only [Act.put, List.setIfInBounds_toArray, List.set_cons_zero, List.set_cons_succ])
                  | (with_reducible apply rel_askF
                     focus (exact rfl)
                     all_goals (intro hb; simp only [hb, Act.put, List.setIfInBounds_toArray, List.set_cons_zero, List.set_cons_succ]))
                  | (with_reducible apply rel_askT
                     focus (exact rfl)
                     all_goals (intro hb; simp only [hb, Act.put, List.setIfInBounds_toArray, List.set_cons_zero, List.set_cons_succ]))
                  | (with_reducible apply rel_front1)
                  | (with_reducible apply rel_front2)
                  | (with_reducible apply rel_front3)
                  | (with_reducible apply rel_front4)
                  | (with_reducible apply rel_front5)
                  | (with_reducible apply rel_front6))
                apply rel_nil
                simp only [Exit.then, Exit.inBlock]
                go_wp2_with fail
                go_ret
                exact ⟨rfl, HU.out.2.2.2.2.2.1.drew⟩
          · have g1 : decide (other < (inn.length : Int)) = false := decide_eq_false o1
            have HNO := Lib.hid (show ¬ (0 ≤ other ∧ other < (inn.length : Int) ∧ rd_T23 inn other = rd_T23 inn y0) from fun h => o1 (by have := HL.out; omega))
            refine wp_region_auto (fun W => Below w.heap.size w W ∧ Blk W wv.heap.size 23 [.int .i64 (rd_T23 inn y0).f0, .int .i64 (rd_T23 inn y0).f1]) ((0, none, none) :: (0, none, none) :: (0, none, none) :: (0, some (157, true), none) :: (0, some (157, true), none) :: (0, some (157, true), none) :: (0, some (157, true), none) :: (0, none, none) :: (0, none, none) :: (0, some (163, true), none) :: (0, some (163, true), none) :: (0, some (163, true), none) :: (0, some (163, true), none) :: (0, some (163, true), none) :: (0, some (163, true), none) :: (0, none, none) :: []) (by kernel_rfl) (by kernel_rfl) (fun _ _ d _ _ h => by cases d <;> exact h) ⟨HU.out.2.2.2.2.2.1.drew, HU.out.2.2.2.2.2.2.drew⟩ ?_
            repeat' (first
              | (with_reducible apply rel_pass
                 focus (intro W hW; first | (go_simp; exact rfl) | go_simp)
                 simp only [Act.put, List.setIfInBounds_toArray, List.set_cons_zero, List.set_cons_succ])
              | (with_reducible apply rel_yes
                 focus (exact rfl))
              | (with_reducible apply rel_no
                 focus (exact rfl)
                 simp only [Act.put, List.setIfInBounds_toArray, List.set_cons_zero, List.set_cons_succ])
              | (with_reducible apply rel_askF
                 focus (exact rfl)
                 all_goals (intro hb; simp only [hb, Act.put, List.setIfInBounds_toArray, List.set_cons_zero, List.set_cons_succ]))
              | (with_reducible apply rel_askT
                 focus (exact rfl)
                 all_goals (intro hb; simp only [hb, Act.put, List.setIfInBounds_toArray, List.set_cons_zero, List.set_cons_succ]))
              | (with_reducible apply rel_front1)
              | (with_reducible apply rel_front2)
              | (with_reducible apply rel_front3)
              | (with_reducible apply rel_front4)
              | (with_reducible apply rel_front5)
              | (with_reducible apply rel_front6))
            apply rel_nil
            simp only [Exit.then, Exit.inBlock]
            clear hS
            have HCH := Lib.hid (chkV_set HV.out HAK.out HY.out (x' := ⟨other, y1, y2⟩) (tamper_in (y := ⟨y0, y1, y2⟩) HQ.out HBIT.out HNO.out))
            have x0 := HU.out.2.2.2.2.1.drew.cell 0 _ rfl
            have x1 := HU.out.2.2.2.2.1.drew.cell 1 _ rfl
            have x2 := HU.out.2.2.2.2.1.drew.cell 2 _ rfl
            go_wp2_with fail
            refine (with_calls pub (some av) ci inn A0 c0 mid A1 c1 out (some al) c2 links k (by omega) (by have := HL.out; have := HK0.out; omega) ⟨other, y1, y2⟩ w.heap.size (w.heap.size + 1) (w.heap.size + 1 + 1) (w.heap.size + 1 + 1 + 1) false wu.drew (Kd.C_below HR.out.1 HU.out.2.2.2.2.2.1.drew) HC.out.1 (Kd.C_below HR.out.2.1 HU.out.2.2.2.2.2.1.drew) HC.out.2.1 (Kd.C_below HR.out.2.2.1 HU.out.2.2.2.2.2.1.drew) HC.out.2.2.1 (Kd.C_below HR.out.2.2.2 HU.out.2.2.2.2.2.1.drew) HC.out.2.2.2 (TabOk.below HT.out HU.out.2.2.2.2.2.1.drew) HU.out.1.drew HU.out.2.1.drew HU.out.2.2.1.drew HU.out.2.2.2.1.drew HCH.out).mono ?_
            rintro e wz ⟨rfl, hbz⟩
            have HBZ := Lib.hid (HU.out.2.2.2.2.2.1.drew.trans (Below.mono hbz HU.out.2.2.2.2.2.1.drew.size))
            clear hbz x0 x1 x2
            go_wp2_with fail
            go_ret
            exact ⟨rfl, HBZ.out⟩
        · have g0 : decide (0 ≤ other) = false := decide_eq_false o0
          have HNO := Lib.hid (show ¬ (0 ≤ other ∧ other < (inn.length : Int) ∧ rd_T23 inn other = rd_T23 inn y0) from fun h => o0 h.1)
          refine wp_region_auto (fun W => Below w.heap.size w W ∧ Blk W wv.heap.size 23 [.int .i64 (rd_T23 inn y0).f0, .int .i64 (rd_T23 inn y0).f1]) ((0, none, none) :: (0, none, none) :: (0, none, none) :: (0, some (157, true), none) :: (0, some (157, true), none) :: (0, some (157, true), none) :: (0, some (157, true), none) :: (0, none, none) :: (0, none, none) :: (0, some (163, true), none) :: (0, some (163, true), none) :: (0, some (163, true), none) :: (0, some (163, true), none) :: (0, some (163, true), none) :: (0, some (163, true), none) :: (0, none, none) :: []) (by kernel_rfl) (by kernel_rfl) (fun _ _ d _ _ h => by cases d <;> exact h) ⟨HU.out.2.2.2.2.2.1.drew, HU.out.2.2.2.2.2.2.drew⟩ ?_
          repeat' (first
            | (with_reducible apply rel_pass
               focus (intro W hW; first | (go_simp; exact rfl) | go_simp)
               simp only [Act.put, List.setIfInBounds_toArray, List.set_cons_zero, List.set_cons_succ])
            | (with_reducible apply rel_yes
               focus (exact rfl))
            | (with_reducible apply rel_no
               focus (exact rfl)
               simp only [Act.put, List.setIfInBounds_toArray, List.set_cons_zero, List.set_cons_succ])
            | (with_reducible apply rel_askF
               focus (exact rfl)
               all_goals (intro hb; simp only [hb, Act.put, List.setIfInBounds_toArray, List.set_cons_zero, List.set_cons_succ]))
            | (with_reducible apply rel_askT
               focus (exact rfl)
               all_goals (intro hb; simp only [hb, Act.put, List.setIfInBounds_toArray, List.set_cons_zero, List.set_cons_succ]))
            | (with_reducible apply rel_front1)
            | (with_reducible apply rel_front2)
            | (with_reducible apply rel_front3)
            | (with_reducible apply rel_front4)
            | (with_reducible apply rel_front5)
            | (with_reducible apply rel_front6))
          apply rel_nil
          simp only [Exit.then, Exit.inBlock]
          clear hS
          have HCH := Lib.hid (chkV_set HV.out HAK.out HY.out (x' := ⟨other, y1, y2⟩) (tamper_in (y := ⟨y0, y1, y2⟩) HQ.out HBIT.out HNO.out))
          have x0 := HU.out.2.2.2.2.1.drew.cell 0 _ rfl
          have x1 := HU.out.2.2.2.2.1.drew.cell 1 _ rfl
          have x2 := HU.out.2.2.2.2.1.drew.cell 2 _ rfl
          go_wp2_with fail
          refine (with_calls pub (some av) ci inn A0 c0 mid A1 c1 out (some al) c2 links k (by omega) (by have := HL.out; have := HK0.out; omega) ⟨other, y1, y2⟩ w.heap.size (w.heap.size + 1) (w.heap.size + 1 + 1) (w.heap.size + 1 + 1 + 1) false wu.drew (Kd.C_below HR.out.1 HU.out.2.2.2.2.2.1.drew) HC.out.1 (Kd.C_below HR.out.2.1 HU.out.2.2.2.2.2.1.drew) HC.out.2.1 (Kd.C_below HR.out.2.2.1 HU.out.2.2.2.2.2.1.drew) HC.out.2.2.1 (Kd.C_below HR.out.2.2.2 HU.out.2.2.2.2.2.1.drew) HC.out.2.2.2 (TabOk.below HT.out HU.out.2.2.2.2.2.1.drew) HU.out.1.drew HU.out.2.1.drew HU.out.2.2.1.drew HU.out.2.2.2.1.drew HCH.out).mono ?_
          rintro e wz ⟨rfl, hbz⟩
          have HBZ := Lib.hid (HU.out.2.2.2.2.2.1.drew.trans (Below.mono hbz HU.out.2.2.2.2.2.1.drew.size))
          clear hbz x0 x1 x2
          go_wp2_with fail
          go_ret
          exact ⟨rfl, HBZ.out⟩
      | true =>
        rw [hbit] at hcg2
        go_wp2_with fail
        refine wp_region_auto (fun W => Blk W (w.heap.size + 1) 24 [.slice Ai inn.length ci] ∧ Blk W (w.heap.size + 1 + 1) 28 [.slice A0 mid.length c0, .slice A1 out.length c1, .slice (some al) links.length c2]) ((0, none, none) :: (0, none, none) :: (0, none, none) :: (0, none, none) :: (0, none, none) :: []) (by kernel_rfl) (by kernel_rfl) (fun _ _ d _ _ h => by cases d <;> exact h) ⟨PT.out.2.1.drew.drew, PT.out.2.2.1.drew.drew⟩ ?_
        repeat' (first
          | (with_reducible apply rel_pass
             focus (intro W hW; first | (go_simp; exact rfl) | go_simp)
             simp only [Act.put, List.setIfInBounds_toArray, List.set_cons_zero, List.set_cons_succ])
          | (with_reducible apply rel_yes
             focus (exact rfl))
          | (with_reducible apply rel_no
             focus (exact rfl)
             simp only [Act.put, List.setIfInBounds_toArray, List.set_cons_zero, List.set_cons_succ])
          | (with_reducible apply rel_askF
             focus (exact rfl)
             all_goals (intro hb; simp only [hb, Act.put, List.setIfInBounds_toArray, List.set_cons_zero, List.set_cons_succ]))
          | (with_reducible apply rel_askT
             focus (exact rfl)
             all_goals (intro hb; simp only [hb, Act.put, List.setIfInBounds_toArray, List.set_cons_zero, List.set_cons_succ]))
          | (with_reducible apply rel_front1)
          | (with_reducible apply rel_front2)
          | (with_reducible apply rel_front3)
          | (with_reducible apply rel_front4)
          | (with_reducible apply rel_front5)
          | (with_reducible apply rel_front6))
        apply rel_nil
        simp only [Exit.then, Exit.inBlock]
        have r0 : 0 ≤ y1 ∧ y1 < (inn.length : Int) := HSP.out.2.1 hbit
        have rl : y1 < (out.length : Int) := by have := HL.out; omega
        have d0 : decide (y1 < 0) = false := decide_eq_false (by omega)
        have d1 : decide ((out.length : Int) ≤ y1) = false := decide_eq_false (by omega)
        have r00 := r0.1
        have hpx := PT.out.2.2.2.2.drew.drew
        have hpq := And.intro (PT.out.1.drew.drew) (And.intro (PT.out.2.1.drew.drew) (And.intro (PT.out.2.2.1.drew.drew) (PT.out.2.2.2.1.drew.drew)))
        have hbd : Below w.heap.size w wt.drew.drew := HBT.out.drew.drew
        have HBIT := Lib.hid hbit
        
        obtain ⟨wv, hwv⟩ : ∃ W, W = wt.drew.drew := ⟨_, rfl⟩
        rw [← hwv] at hpx hpq hbd  ⊢
        obtain ⟨av, ea, hv0, hv1⟩ := read_ci HR.out.2.2.1 hbd y1 r0.1 rl
        cases ea
        
        have x0 := hpx.cell 0 _ rfl
        have x1 := hpx.cell 1 _ rfl
        have x2 := hpx.cell 2 _ rfl
        have f0 := fun o => (hpx.alloc o).frozen 1
        have z0 := fun o => (hpx.alloc o).cell 1 _ rfl
        have HBD := Lib.hid hbd
        have HPX := Lib.hid hpx
        have HPQ := Lib.hid hpq
        have HW4 := Lib.hid hpx.lt
        clear hS b5d b1 b3 b5 hbd r0 HCG2 hpx hpq hwv hbit 
        go_wp2_with fail
        have hw1 : wv.heap.size ≠ w4.heap.size := by have := HW4.out; omega
        have hwas := ((Blk.new wv 23 [Value.int IntKind.i64 (rd_T23 out y1).f0, Value.int IntKind.i64 (rd_T23 out y1).f1]).other hw1 1 (.int .i64 other))
        have hxb := (HPX.out.alloc (Obj.cells #[Value.int IntKind.i64 (rd_T23 out y1).f0, Value.int IntKind.i64 (rd_T23 out y1).f1] 23)).set 1 (.int .i64 other)
        have oth : ∀ {B t vs}, Blk wv B t vs → B < w4.heap.size → Blk ((wv.alloc (Obj.cells #[Value.int IntKind.i64 (rd_T23 out y1).f0, Value.int IntKind.i64 (rd_T23 out y1).f1] 23)).setCell ⟨w4.heap.size, 1, none⟩ (.int .i64 other)) B t vs := fun h hB => (h.alloc _).other (Nat.ne_of_lt hB) 1 _
        have q1 := oth HPQ.out.1 (by have := HSZ.out; omega)
        have q2 := oth HPQ.out.2.1 (by have := HSZ.out; omega)
        have q3 := oth HPQ.out.2.2.1 (by have := HSZ.out; omega)
        have q4 := oth HPQ.out.2.2.2 (by have := HSZ.out; omega)
        have hw : w.heap.size ≤ w4.heap.size := by have := HSZ.out; omega
        have qb : Below w.heap.size w ((wv.alloc (Obj.cells #[Value.int IntKind.i64 (rd_T23 out y1).f0, Value.int IntKind.i64 (rd_T23 out y1).f1] 23)).setCell ⟨w4.heap.size, 1, none⟩ (.int .i64 other)) := (HBD.out.alloc HBD.out.size _).setCell hw _
        rw [show (List.toArray [Value.int IntKind.i64 (rd_T23 out y1).f0, Value.int IntKind.i64 (rd_T23 out y1).f1]) = #[Value.int IntKind.i64 (rd_T23 out y1).f0, Value.int IntKind.i64 (rd_T23 out y1).f1] from rfl] at hwas
        generalize (wv.alloc (Obj.cells #[Value.int IntKind.i64 (rd_T23 out y1).f0, Value.int IntKind.i64 (rd_T23 out y1).f1] 23)).setCell ⟨w4.heap.size, 1, none⟩ (.int .i64 other) = wu at hwas hxb q1 q2 q3 q4 qb ⊢
        have HU := Lib.hid (And.intro q1 (And.intro q2 (And.intro q3 (And.intro q4 (And.intro hxb (And.intro qb hwas))))))
        clear hwas hxb q1 q2 q3 q4 qb oth hw hw1 x0 x1 x2 f0 z0 hv0 hv1 d0 d1 
        have hS : ∀ W, Held (fun W => Below w.heap.size w W ∧ Blk W wv.heap.size 23 [.int .i64 (rd_T23 out y1).f0, .int .i64 (rd_T23 out y1).f1]) W → W.cell? ⟨wv.heap.size, 0, none⟩ = some (.int .i64 (rd_T23 out y1).f0) ∧ W.cell? ⟨wv.heap.size, 1, none⟩ = some (.int .i64 (rd_T23 out y1).f1) := fun W hW => ⟨hW.2.cell 0 _ rfl, hW.2.cell 1 _ rfl⟩
        by_cases o0 : 0 ≤ other
        · have g0 : decide (0 ≤ other) = true := decide_eq_true o0
          by_cases o1 : other < (out.length : Int)
          · have g1 : decide (other < (out.length : Int)) = true := decide_eq_true o1
            have ho : ∀ W, Held (fun W => Below w.heap.size w W ∧ Blk W wv.heap.size 23 [.int .i64 (rd_T23 out y1).f0, .int .i64 (rd_T23 out y1).f1]) W → W.cell? (av.add (other.toNat * 2)) = some (.int .i64 (rd_T23 out other).f0) ∧ W.cell? ⟨(av.add (other.toNat * 2)).block, (av.add (other.toNat * 2)).off + 1, none⟩ = some (.int .i64 (rd_T23 out other).f1) := fun W hW => by
              obtain ⟨ad, e, h2, h3⟩ := read_ci HR.out.2.2.1 hW.1 other o0 o1
              cases e
              exact ⟨h2, h3⟩
            cases t0 : ((rd_T23 out other).f0 == (rd_T23 out y1).f0) with
            | false =>
              have HNO := Lib.hid (show ¬ (0 ≤ other ∧ other < (inn.length : Int) ∧ rd_T23 out other = rd_T23 out y1) from fun h => by rw [h.2.2] at t0; simp at t0)
              refine wp_region_auto (fun W => Below w.heap.size w W ∧ Blk W wv.heap.size 23 [.int .i64 (rd_T23 out y1).f0, .int .i64 (rd_T23 out y1).f1]) ((0, none, none) :: (0, none, none) :: (0, none, none) :: (0, some (157, true), none) :: (0, some (157, true), none) :: (0, some (157, true), none) :: (0, some (157, true), none) :: (0, none, none) :: (0, none, none) :: (0, some (163, true), none) :: (0, some (163, true), none) :: (0, some (163, true), none) :: (0, some (163, true), none) :: (0, some (163, true), none) :: (0, some (163, true), none) :: (0, none, none) :: []) (by kernel_rfl) (by kernel_rfl) (fun _ _ d _ _ h => by cases d <;> exact h) ⟨HU.out.2.2.2.2.2.1.drew, HU.out.2.2.2.2.2.2.drew⟩ ?_
              repeat' (first
                | (with_reducible apply rel_pass
                   focus (intro W hW; first | (go_simp; exact rfl) | go_simp)
                   simp only [Act.put, List.setIfInBounds_toArray, List.set_cons_zero, List.set_cons_succ])
                | (with_reducible apply rel_yes
                   focus (exact rfl))
                | (with_reducible apply rel_no
                   focus (exact rfl)
                   simp only [Act.put, List.setIfInBounds_toArray, List.set_cons_zero, List.set_cons_succ])
                | (with_reducible apply rel_askF
                   focus (exact rfl)
                   all_goals (intro hb; simp only [hb, Act.put, List.setIfInBounds_toArray, List.set_cons_zero, List.set_cons_succ]))
                | (with_reducible apply rel_askT
                   focus (exact rfl)
                   all_goals (intro hb; simp only [hb, Act.put, List.setIfInBounds_toArray, List.set_cons_zero, List.set_cons_succ]))
                | (with_reducible apply rel_front1)
                | (with_reducible apply rel_front2)
                | (with_reducible apply rel_front3)
                | (with_reducible apply rel_front4)
                | (with_reducible apply rel_front5)
                | (with_reducible apply rel_front6))
              apply rel_nil
              simp only [Exit.then, Exit.inBlock]
              clear hS
              have HCH := Lib.hid (chkV_set HV.out HAK.out HY.out (x' := ⟨y0, other, y2⟩) (tamper_out (y := ⟨y0, y1, y2⟩) HBIT.out HNO.out))
              have x0 := HU.out.2.2.2.2.1.drew.cell 0 _ rfl
              have x1 := HU.out.2.2.2.2.1.drew.cell 1 _ rfl
              have x2 := HU.out.2.2.2.2.1.drew.cell 2 _ rfl
              go_wp2_with fail
              refine (with_calls pub Ai ci inn A0 c0 mid (some av) c1 out (some al) c2 links k (by omega) (by have := HL.out; have := HK0.out; omega) ⟨y0, other, y2⟩ w.heap.size (w.heap.size + 1) (w.heap.size + 1 + 1) (w.heap.size + 1 + 1 + 1) false wu.drew (Kd.C_below HR.out.1 HU.out.2.2.2.2.2.1.drew) HC.out.1 (Kd.C_below HR.out.2.1 HU.out.2.2.2.2.2.1.drew) HC.out.2.1 (Kd.C_below HR.out.2.2.1 HU.out.2.2.2.2.2.1.drew) HC.out.2.2.1 (Kd.C_below HR.out.2.2.2 HU.out.2.2.2.2.2.1.drew) HC.out.2.2.2 (TabOk.below HT.out HU.out.2.2.2.2.2.1.drew) HU.out.1.drew HU.out.2.1.drew HU.out.2.2.1.drew HU.out.2.2.2.1.drew HCH.out).mono ?_
              rintro e wz ⟨rfl, hbz⟩
              have HBZ := Lib.hid (HU.out.2.2.2.2.2.1.drew.trans (Below.mono hbz HU.out.2.2.2.2.2.1.drew.size))
              clear hbz x0 x1 x2
              go_wp2_with fail
              go_ret
              exact ⟨rfl, HBZ.out⟩
            | true =>
              cases t1 : ((rd_T23 out other).f1 == (rd_T23 out y1).f1) with
              | false =>
                have HNO := Lib.hid (show ¬ (0 ≤ other ∧ other < (inn.length : Int) ∧ rd_T23 out other = rd_T23 out y1) from fun h => by rw [h.2.2] at t1; simp at t1)
                refine wp_region_auto (fun W => Below w.heap.size w W ∧ Blk W wv.heap.size 23 [.int .i64 (rd_T23 out y1).f0, .int .i64 (rd_T23 out y1).f1]) ((0, none, none) :: (0, none, none) :: (0, none, none) :: (0, some (157, true), none) :: (0, some (157, true), none) :: (0, some (157, true), none) :: (0, some (157, true), none) :: (0, none, none) :: (0, none, none) :: (0, some (163, true), none) :: (0, some (163, true), none) :: (0, some (163, true), none) :: (0, some (163, true), none) :: (0, some (163, true), none) :: (0, some (163, true), none) :: (0, none, none) :: []) (by kernel_rfl) (by kernel_rfl) (fun _ _ d _ _ h => by cases d <;> exact h) ⟨HU.out.2.2.2.2.2.1.drew, HU.out.2.2.2.2.2.2.drew⟩ ?_
                repeat' (first
                  | (with_reducible apply rel_pass
                     focus (intro W hW; first | (go_simp; exact rfl) | go_simp)
                     simp only [Act.put, List.setIfInBounds_toArray, List.set_cons_zero, List.set_cons_succ])
                  | (with_reducible apply rel_yes
                     focus (exact rfl))
                  | (with_reducible apply rel_no
                     focus (exact rfl)
                     simp only [Act.put, List.setIfInBounds_toArray, List.set_cons_zero, List.set_cons_succ])
                  | (with_reducible apply rel_askF
                     focus (exact rfl)
                     all_goals (intro hb; simp only [hb, Act.put, List.setIfInBounds_toArray, List.set_cons_zero, List.set_cons_succ]))
                  | (with_reducible apply rel_askT
                     focus (exact rfl)
                     all_goals (intro hb; simp only [hb, Act.put, List.setIfInBounds_toArray, List.set_cons_zero, List.set_cons_succ]))
                  | (with_reducible apply rel_front1)
                  | (with_reducible apply rel_front2)
                  | (with_reducible apply rel_front3)
                  | (with_reducible apply rel_front4)
                  | (with_reducible apply rel_front5)
                  | (with_reducible apply rel_front6))
                apply rel_nil
                simp only [Exit.then, Exit.inBlock]
                clear hS
                have HCH := Lib.hid (chkV_set HV.out HAK.out HY.out (x' := ⟨y0, other, y2⟩) (tamper_out (y := ⟨y0, y1, y2⟩) HBIT.out HNO.out))
                have x0 := HU.out.2.2.2.2.1.drew.cell 0 _ rfl
                have x1 := HU.out.2.2.2.2.1.drew.cell 1 _ rfl
                have x2 := HU.out.2.2.2.2.1.drew.cell 2 _ rfl
                go_wp2_with fail
                refine (with_calls pub Ai ci inn A0 c0 mid (some av) c1 out (some al) c2 links k (by omega) (by have := HL.out; have := HK0.out; omega) ⟨y0, other, y2⟩ w.heap.size (w.heap.size + 1) (w.heap.size + 1 + 1) (w.heap.size + 1 + 1 + 1) false wu.drew (Kd.C_below HR.out.1 HU.out.2.2.2.2.2.1.drew) HC.out.1 (Kd.C_below HR.out.2.1 HU.out.2.2.2.2.2.1.drew) HC.out.2.1 (Kd.C_below HR.out.2.2.1 HU.out.2.2.2.2.2.1.drew) HC.out.2.2.1 (Kd.C_below HR.out.2.2.2 HU.out.2.2.2.2.2.1.drew) HC.out.2.2.2 (TabOk.below HT.out HU.out.2.2.2.2.2.1.drew) HU.out.1.drew HU.out.2.1.drew HU.out.2.2.1.drew HU.out.2.2.2.1.drew HCH.out).mono ?_
                rintro e wz ⟨rfl, hbz⟩
                have HBZ := Lib.hid (HU.out.2.2.2.2.2.1.drew.trans (Below.mono hbz HU.out.2.2.2.2.2.1.drew.size))
                clear hbz x0 x1 x2
                go_wp2_with fail
                go_ret
                exact ⟨rfl, HBZ.out⟩
              | true =>
                refine wp_region_auto (fun W => Below w.heap.size w W ∧ Blk W wv.heap.size 23 [.int .i64 (rd_T23 out y1).f0, .int .i64 (rd_T23 out y1).f1]) ((0, none, none) :: (0, none, none) :: (0, none, none) :: (0, some (157, true), none) :: (0, some (157, true), none) :: (0, some (157, true), none) :: (0, some (157, true), none) :: (0, none, none) :: (0, none, none) :: (0, some (163, true), none) :: (0, some (163, true), none) :: (0, some (163, true), none) :: (0, some (163, true), none) :: (0, some (163, true), none) :: (0, some (163, true), none) :: (0, none, none) :: []) (by kernel_rfl) (by kernel_rfl) (fun _ _ d _ _ h => by cases d <;> exact h) ⟨HU.out.2.2.2.2.2.1.drew, HU.out.2.2.2.2.2.2.drew⟩ ?_
                repeat' (first
                  | (with_reducible apply rel_pass
                     focus (intro W hW; first | (go_simp; exact rfl) | go_simp)
                     simp only [Act.put, List.setIfInBounds_toArray, List.set_cons_zero, List.set_cons_succ])
                  | (with_reducible apply rel_yes
                     focus (exact rfl))
                  | (with_reducible apply rel_no
                     focus (exact rfl)
                     simp only [Act.put, List.setIfInBounds_toArray, List.set_cons_zero, List.set_cons_succ])
                  | (with_reducible apply rel_askF
                     focus (exact rfl)
                     all_goals (intro hb; simp only [hb, Act.put, List.setIfInBounds_toArray, List.set_cons_zero, List.set_cons_succ]))
                  | (with_reducible apply rel_askT
                     focus (exact rfl)
                     all_goals (intro hb; simp only [hb, Act.put, List.setIfInBounds_toArray, List.set_cons_zero, List.set_cons_succ]))
                  | (with_reducible apply rel_front1)
                  | (with_reducible apply rel_front2)
                  | (with_reducible apply rel_front3)
                  | (with_reducible apply rel_front4)
                  | (with_reducible apply rel_front5)
                  | (with_reducible apply rel_front6))
                apply rel_nil
                simp only [Exit.then, Exit.inBlock]
                go_wp2_with fail
                go_ret
                exact ⟨rfl, HU.out.2.2.2.2.2.1.drew⟩
          · have g1 : decide (other < (out.length : Int)) = false := decide_eq_false o1
            have HNO := Lib.hid (show ¬ (0 ≤ other ∧ other < (inn.length : Int) ∧ rd_T23 out other = rd_T23 out y1) from fun h => o1 (by have := HL.out; omega))
            refine wp_region_auto (fun W => Below w.heap.size w W ∧ Blk W wv.heap.size 23 [.int .i64 (rd_T23 out y1).f0, .int .i64 (rd_T23 out y1).f1]) ((0, none, none) :: (0, none, none) :: (0, none, none) :: (0, some (157, true), none) :: (0, some (157, true), none) :: (0, some (157, true), none) :: (0, some (157, true), none) :: (0, none, none) :: (0, none, none) :: (0, some (163, true), none) :: (0, some (163, true), none) :: (0, some (163, true), none) :: (0, some (163, true), none) :: (0, some (163, true), none) :: (0, some (163, true), none) :: (0, none, none) :: []) (by kernel_rfl) (by kernel_rfl) (fun _ _ d _ _ h => by cases d <;> exact h) ⟨HU.out.2.2.2.2.2.1.drew, HU.out.2.2.2.2.2.2.drew⟩ ?_
            repeat' (first
              | (with_reducible apply rel_pass
                 focus (intro W hW; first | (go_simp; exact rfl) | go_simp)
                 simp only [Act.put, List.setIfInBounds_toArray, List.set_cons_zero, List.set_cons_succ])
              | (with_reducible apply rel_yes
                 focus (exact rfl))
              | (with_reducible apply rel_no
                 focus (exact rfl)
                 simp only [Act.put, List.setIfInBounds_toArray, List.set_cons_zero, List.set_cons_succ])
              | (with_reducible apply rel_askF
                 focus (exact rfl)
                 all_goals (intro hb; simp only [hb, Act.put, List.setIfInBounds_toArray, List.set_cons_zero, List.set_cons_succ]))
              | (with_reducible apply rel_askT
                 focus (exact rfl)
                 all_goals (intro hb; simp only [hb, Act.put, List.setIfInBounds_toArray, List.set_cons_zero, List.set_cons_succ]))
              | (with_reducible apply rel_front1)
              | (with_reducible apply rel_front2)
              | (with_reducible apply rel_front3)
              | (with_reducible apply rel_front4)
              | (with_reducible apply rel_front5)
              | (with_reducible apply rel_front6))
            apply rel_nil
            simp only [Exit.then, Exit.inBlock]
            clear hS
            have HCH := Lib.hid (chkV_set HV.out HAK.out HY.out (x' := ⟨y0, other, y2⟩) (tamper_out (y := ⟨y0, y1, y2⟩) HBIT.out HNO.out))
            have x0 := HU.out.2.2.2.2.1.drew.cell 0 _ rfl
            have x1 := HU.out.2.2.2.2.1.drew.cell 1 _ rfl
            have x2 := HU.out.2.2.2.2.1.drew.cell 2 _ rfl
            go_wp2_with fail
            refine (with_calls pub Ai ci inn A0 c0 mid (some av) c1 out (some al) c2 links k (by omega) (by have := HL.out; have := HK0.out; omega) ⟨y0, other, y2⟩ w.heap.size (w.heap.size + 1) (w.heap.size + 1 + 1) (w.heap.size + 1 + 1 + 1) false wu.drew (Kd.C_below HR.out.1 HU.out.2.2.2.2.2.1.drew) HC.out.1 (Kd.C_below HR.out.2.1 HU.out.2.2.2.2.2.1.drew) HC.out.2.1 (Kd.C_below HR.out.2.2.1 HU.out.2.2.2.2.2.1.drew) HC.out.2.2.1 (Kd.C_below HR.out.2.2.2 HU.out.2.2.2.2.2.1.drew) HC.out.2.2.2 (TabOk.below HT.out HU.out.2.2.2.2.2.1.drew) HU.out.1.drew HU.out.2.1.drew HU.out.2.2.1.drew HU.out.2.2.2.1.drew HCH.out).mono ?_
            rintro e wz ⟨rfl, hbz⟩
            have HBZ := Lib.hid (HU.out.2.2.2.2.2.1.drew.trans (Below.mono hbz HU.out.2.2.2.2.2.1.drew.size))
            clear hbz x0 x1 x2
            go_wp2_with fail
            go_ret
            exact ⟨rfl, HBZ.out⟩
        · have g0 : decide (0 ≤ other) = false := decide_eq_false o0
          have HNO := Lib.hid (show ¬ (0 ≤ other ∧ other < (inn.length : Int) ∧ rd_T23 out other = rd_T23 out y1) from fun h => o0 h.1)
          refine wp_region_auto (fun W => Below w.heap.size w W ∧ Blk W wv.heap.size 23 [.int .i64 (rd_T23 out y1).f0, .int .i64 (rd_T23 out y1).f1]) ((0, none, none) :: (0, none, none) :: (0, none, none) :: (0, some (157, true), none) :: (0, some (157, true), none) :: (0, some (157, true), none) :: (0, some (157, true), none) :: (0, none, none) :: (0, none, none) :: (0, some (163, true), none) :: (0, some (163, true), none) :: (0, some (163, true), none) :: (0, some (163, true), none) :: (0, some (163, true), none) :: (0, some (163, true), none) :: (0, none, none) :: []) (by kernel_rfl) (by kernel_rfl) (fun _ _ d _ _ h => by cases d <;> exact h) ⟨HU.out.2.2.2.2.2.1.drew, HU.out.2.2.2.2.2.2.drew⟩ ?_
          repeat' (first
            | (with_reducible apply rel_pass
               focus (intro W hW; first | (go_simp; exact rfl) | go_simp)
               simp only [Act.put, List.setIfInBounds_toArray, List.set_cons_zero, List.set_cons_succ])
            | (with_reducible apply rel_yes
               focus (exact rfl))
            | (with_reducible apply rel_no
               focus (exact rfl)
               simp only [Act.put, List.setIfInBounds_toArray, List.set_cons_zero, List.set_cons_succ])
            | (with_reducible apply rel_askF
               focus (exact rfl)
               all_goals (intro hb; simp only [hb, Act.put, List.setIfInBounds_toArray, List.set_cons_zero, List.set_cons_succ]))
            | (with_reducible apply rel_askT
               focus (exact rfl)
               all_goals (intro hb; simp only [hb, Act.put, List.setIfInBounds_toArray, List.set_cons_zero, List.set_cons_succ]))
            | (with_reducible apply rel_front1)
            | (with_reducible apply rel_front2)
            | (with_reducible apply rel_front3)
            | (with_reducible apply rel_front4)
            | (with_reducible apply rel_front5)
            | (with_reducible apply rel_front6))
          apply rel_nil
          simp only [Exit.then, Exit.inBlock]
          clear hS
          have HCH := Lib.hid (chkV_set HV.out HAK.out HY.out (x' := ⟨y0, other, y2⟩) (tamper_out (y := ⟨y0, y1, y2⟩) HBIT.out HNO.out))
          have x0 := HU.out.2.2.2.2.1.drew.cell 0 _ rfl
          have x1 := HU.out.2.2.2.2.1.drew.cell 1 _ rfl
          have x2 := HU.out.2.2.2.2.1.drew.cell 2 _ rfl
          go_wp2_with fail
          refine (with_calls pub Ai ci inn A0 c0 mid (some av) c1 out (some al) c2 links k (by omega) (by have := HL.out; have := HK0.out; omega) ⟨y0, other, y2⟩ w.heap.size (w.heap.size + 1) (w.heap.size + 1 + 1) (w.heap.size + 1 + 1 + 1) false wu.drew (Kd.C_below HR.out.1 HU.out.2.2.2.2.2.1.drew) HC.out.1 (Kd.C_below HR.out.2.1 HU.out.2.2.2.2.2.1.drew) HC.out.2.1 (Kd.C_below HR.out.2.2.1 HU.out.2.2.2.2.2.1.drew) HC.out.2.2.1 (Kd.C_below HR.out.2.2.2 HU.out.2.2.2.2.2.1.drew) HC.out.2.2.2 (TabOk.below HT.out HU.out.2.2.2.2.2.1.drew) HU.out.1.drew HU.out.2.1.drew HU.out.2.2.1.drew HU.out.2.2.2.1.drew HCH.out).mono ?_
          rintro e wz ⟨rfl, hbz⟩
          have HBZ := Lib.hid (HU.out.2.2.2.2.2.1.drew.trans (Below.mono hbz HU.out.2.2.2.2.2.1.drew.size))
          clear hbz x0 x1 x2
          go_wp2_with fail
          go_ret
          exact ⟨rfl, HBZ.out⟩
end Go.Proofs.YtkaebblbmoolaaaDoor.P
