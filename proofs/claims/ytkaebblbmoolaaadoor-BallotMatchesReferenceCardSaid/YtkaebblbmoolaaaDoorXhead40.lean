/- Chapter 40: the law's head (fixed votes), walked once: it answers true. -/
import Derived.Test.YtkaebblbmoolaaaDoorPbD
import Derived.Test.YtkaebblbmoolaaaDoorXshuf
import Derived.Test.YtkaebblbmoolaaaDoorPx7
set_option linter.unusedSimpArgs false
set_option linter.unusedVariables false
namespace Go.Proofs.YtkaebblbmoolaaaDoor.P
open Go Go.RowKit Go.Proofs.YtkaebblbmoolaaaDoorW.PrintWords Go.Proofs.YtkaebblbmoolaaaDoorW.PrintLast Go.Proofs.YtkaebblbmoolaaaDoorW.PrintMore Go.Proofs.YtkaebblbmoolaaaDoor.Ord

theorem sameC_l0 (l : List S23) (hl : l.length < 9223372036854775807) : ∀ (d i k : Nat), l.length - i = d → i ≤ l.length → d < k → cohousingref40_SameCiphers.l0 k l l (i : Nat) = some true
  | d, i, 0, hd, hi, hk => by omega
  | 0, i, k + 1, hd, hi, hk => by
    obtain rfl : i = l.length := by omega
    simp only [cohousingref40_SameCiphers.l0]
    rw [if_neg (by omega)]
  | d + 1, i, k + 1, hd, hi, hk => by
    have ih := sameC_l0 l hl d (i + 1) k (by omega) (by omega) (by omega)
    simp only [cohousingref40_SameCiphers.l0]
    rw [if_pos (by omega), if_pos (by omega), if_pos (by omega), if_neg (by simp), wrapN i (by omega), ih]
theorem sameC_f (l : List S23) (hl : l.length < 9223372036854775807) (k : Nat) (hk : l.length < k) : cohousingref40_SameCiphers.f k l l = some true := by
  unfold cohousingref40_SameCiphers.f
  rw [if_pos rfl]
  exact sameC_l0 l hl l.length 0 k (by omega) (by omega) hk
/-- A row of encrypted votes written out. -/
theorem lit2 (W : World) (a b c d : Int) : Kd.C k23 (W.alloc (Obj.cells #[Value.int IntKind.i64 a, Value.int IntKind.i64 b, Value.int IntKind.i64 c, Value.int IntKind.i64 d] 23)) (some ⟨W.heap.size, 0, none⟩) 2 [(⟨a, b⟩ : S23), ⟨c, d⟩] :=
  C_parts (d := k23) W [(⟨a, b⟩ : S23), ⟨c, d⟩] [[.int .i64 a, .int .i64 b], [.int .i64 c, .int .i64 d]] 23 (by simp) ⟨k23_mk _ _, k23_mk _ _, trivial⟩
theorem litI (W : World) (a b : Int) : Kd.C (Kd.int .i64) (W.alloc (Obj.cells #[Value.int IntKind.i64 a, Value.int IntKind.i64 b] 3)) (some ⟨W.heap.size, 0, none⟩) 2 [a, b] :=
  C_parts (d := Kd.int .i64) W [a, b] [[.int .i64 a], [.int .i64 b]] 3 (by simp) ⟨rfl, rfl, trivial⟩
theorem lits4 (W : World) (a b c d e f g h : Int) : ∃ W4, ((((W.alloc (Obj.cells #[Value.int IntKind.i64 a, Value.int IntKind.i64 b] 3)).alloc (Obj.cells #[Value.int IntKind.i64 c, Value.int IntKind.i64 d] 3)).alloc (Obj.cells #[Value.int IntKind.i64 e, Value.int IntKind.i64 f] 3)).alloc (Obj.cells #[Value.int IntKind.i64 g, Value.int IntKind.i64 h] 3)) = W4 ∧
    Kd.C (Kd.int .i64) W4 (some ⟨W.heap.size, 0, none⟩) 2 [a, b] ∧ Kd.C (Kd.int .i64) W4 (some ⟨W.heap.size + 1, 0, none⟩) 2 [c, d] ∧ Kd.C (Kd.int .i64) W4 (some ⟨W.heap.size + 1 + 1, 0, none⟩) 2 [e, f] ∧ Kd.C (Kd.int .i64) W4 (some ⟨W.heap.size + 1 + 1 + 1, 0, none⟩) 2 [g, h] ∧ Below W.heap.size W W4 ∧ W4.heap.size = W.heap.size + 4 := by
  refine ⟨_, rfl, ?_, ?_, ?_, ?_, ?_, ?_⟩
  · exact Kd.C_alloc (Kd.C_alloc (Kd.C_alloc (litI W a b) _) _) _
  · have := Kd.C_alloc (Kd.C_alloc (litI (W.alloc (Obj.cells #[Value.int IntKind.i64 a, Value.int IntKind.i64 b] 3)) c d) (Obj.cells #[Value.int IntKind.i64 e, Value.int IntKind.i64 f] 3)) (Obj.cells #[Value.int IntKind.i64 g, Value.int IntKind.i64 h] 3)
    rw [World.size_alloc] at this
    exact this
  · have := Kd.C_alloc (litI ((W.alloc (Obj.cells #[Value.int IntKind.i64 a, Value.int IntKind.i64 b] 3)).alloc (Obj.cells #[Value.int IntKind.i64 c, Value.int IntKind.i64 d] 3)) e f) (Obj.cells #[Value.int IntKind.i64 g, Value.int IntKind.i64 h] 3)
    rw [World.size_alloc, World.size_alloc] at this
    exact this
  · have := litI (((W.alloc (Obj.cells #[Value.int IntKind.i64 a, Value.int IntKind.i64 b] 3)).alloc (Obj.cells #[Value.int IntKind.i64 c, Value.int IntKind.i64 d] 3)).alloc (Obj.cells #[Value.int IntKind.i64 e, Value.int IntKind.i64 f] 3)) g h
    rw [World.size_alloc, World.size_alloc, World.size_alloc] at this
    exact this
  · exact ((((Below.refl _ W).alloc (Nat.le_refl _) _).alloc (by simp) _).alloc (by simp; omega) _).alloc (by simp; omega) _
  · simp only [World.size_alloc]
def cohousinglaw40_head.f : Option Bool := some true
set_option maxHeartbeats 8000000 in
set_option maxRecDepth 100000 in
theorem cohousinglaw40_head.calls (r : Bool) (w : World) (hT : TabOk w) (h : cohousinglaw40_head.f = some r) :
    Calls Tryd.prog 9 #[] w fun e w' => e = .returned (.bool r) ∧ Below w.heap.size w w' := by
  obtain rfl := Option.some.inj h
  have HT := Lib.hid hT
  clear h hT
  go_enter Tryd.func9, Tryd.ntmps9
  go_wp2_with fail
  refine (ballot_Encrypt.calls 4 1 2 16 64 0 w (by rw [enc_f, head1])).mono ?_
  rintro e w1 ⟨rfl, hb1⟩
  have HB1 := Lib.hid hb1
  clear hb1
  go_wp2_with fail
  obtain ⟨hx2, hs2, hb2⟩ := Blk.box w1 23 [Value.int IntKind.i64 16, Value.int IntKind.i64 64]
  rw [show (List.toArray [Value.int IntKind.i64 16, Value.int IntKind.i64 64]) = #[Value.int IntKind.i64 16, Value.int IntKind.i64 64] from rfl] at hx2 hs2 hb2
  generalize w1.alloc (Obj.cells #[Value.int IntKind.i64 16, Value.int IntKind.i64 64] 23) = w2 at hx2 hs2 hb2 ⊢
  refine (ballot_Again.calls 4 16 64 1 64 256 0 w2 (by rw [again_f, head2])).mono ?_
  rintro e w3 ⟨rfl, hb3⟩
  have HX3 := Lib.hid (hx2.below hb3 hx2.lt)
  have HB3 := Lib.hid (show Below w.heap.size w w3 from HB1.out.trans (Below.mono (hb2.trans (Below.mono hb3 (by omega))) HB1.out.size))
  clear hx2 hs2 hb2 hb3 HB1
  go_wp2_with fail
  obtain ⟨hx4, hs4, hb4⟩ := Blk.box w3 23 [Value.int IntKind.i64 64, Value.int IntKind.i64 256]
  rw [show (List.toArray [Value.int IntKind.i64 64, Value.int IntKind.i64 256]) = #[Value.int IntKind.i64 64, Value.int IntKind.i64 256] from rfl] at hx4 hs4 hb4
  generalize w3.alloc (Obj.cells #[Value.int IntKind.i64 64, Value.int IntKind.i64 256] 23) = w4 at hx4 hs4 hb4 ⊢
  refine (ballot_Encrypt.calls 4 3 2 0 0 1 w4 (by rw [enc_f, head3])).mono ?_
  rintro e w5 ⟨rfl, hb5⟩
  have hb35 := hb4.trans (Below.mono hb5 (by omega))
  have hx5 := hx4.below hb5 hx4.lt
  have hy5 := HX3.out.below hb35 HX3.out.lt
  have HB5 := Lib.hid (HB3.out.trans (Below.mono hb35 HB3.out.size))
  have x0 := fun o => (hx5.alloc o).cell 0 _ rfl
  have x1 := fun o => (hx5.alloc o).cell 1 _ rfl
  have y0 := fun o => (hy5.alloc o).cell 0 _ rfl
  have y1 := fun o => (hy5.alloc o).cell 1 _ rfl
  have HX5 := Lib.hid (And.intro hx5 hy5)
  clear hx4 hs4 hb4 hb5 hb35 hx5 hy5 HX3 HB3
  go_wp2_with fail
  have hs6 := World.size_alloc w5 (Obj.cells #[Value.int IntKind.i64 0, Value.int IntKind.i64 0] 23)
  have hb6 := (Below.refl w5.heap.size w5).alloc (Nat.le_refl _) (Obj.cells #[Value.int IntKind.i64 0, Value.int IntKind.i64 0] 23)
  generalize w5.alloc (Obj.cells #[Value.int IntKind.i64 0, Value.int IntKind.i64 0] 23) = w6 at hs6 hb6 ⊢
  have hin := lit2 w6 16 64 64 256
  have hs7 := World.size_alloc w6 (Obj.cells #[Value.int IntKind.i64 16, Value.int IntKind.i64 64, Value.int IntKind.i64 64, Value.int IntKind.i64 256] 23)
  have hb7 := (Below.refl w6.heap.size w6).alloc (Nat.le_refl _) (Obj.cells #[Value.int IntKind.i64 16, Value.int IntKind.i64 64, Value.int IntKind.i64 64, Value.int IntKind.i64 256] 23)
  generalize w6.alloc (Obj.cells #[Value.int IntKind.i64 16, Value.int IntKind.i64 64, Value.int IntKind.i64 64, Value.int IntKind.i64 256] 23) = w7 at hin hs7 hb7 ⊢
  obtain ⟨w8, hw8, l1, l2, l3, l4, hb8, hs8⟩ := lits4 w7 1 0 0 1 1 0 0 2
  rw [hs6] at hin hs7
  rw [hs7] at l1 l2 l3 l4
  rw [hw8]
  have hb58 : Below w5.heap.size w5 w8 := (hb6.trans (Below.mono hb7 (by omega))).trans (Below.mono hb8 (by omega))
  have HIN := Lib.hid hin
  have HB8 := Lib.hid (HB5.out.trans (Below.mono hb58 HB5.out.size))
  refine (shuf_calls 4 _ 2 hIn _ 2 [1, 0] _ 2 [0, 1] _ 2 [1, 0] _ 2 [0, 2] w8 (Kd.C_below hin hb8) (by decide) l1 (by decide) l2 (by decide) l3 (by decide) l4 (by decide) (TabOk.below HT.out HB8.out) _ hShufV).mono ?_
  rintro e w9 ⟨v0, v1, v2, rfl, o0, o1, o2, hb9⟩
  obtain ⟨A0, c0, rfl, m0, m1⟩ := Kd.R_reads o0
  obtain ⟨A1, c1, rfl, m2, m3⟩ := Kd.R_reads o1
  obtain ⟨A2, c2, rfl, m4, m5⟩ := Kd.R_reads o2
  have HX9 := Lib.hid (And.intro (HX5.out.1.below (hb58.trans (Below.mono hb9 hb58.size)) HX5.out.1.lt) (HX5.out.2.below (hb58.trans (Below.mono hb9 hb58.size)) HX5.out.2.lt))
  have hin9 := Kd.C_below (Kd.C_below hin hb8) hb9
  have HB9 := Lib.hid (HB8.out.trans (Below.mono hb9 HB8.out.size))
  have HM := Lib.hid (And.intro m0 (And.intro m1 (And.intro m2 (And.intro m3 (And.intro m4 m5)))))
  have HIN9 := Lib.hid hin9
  clear hs6 hb6 hs7 hb7 hw8 l1 l2 l3 l4 hb8 hs8 hb58 hin o0 o1 o2 m0 m1 m2 m3 m4 m5 hb9 hin9 HX5 HIN HB8 HB5 x0 x1 y0 y1
  go_wp2_with fail
  obtain ⟨LK, hLK⟩ : ∃ L, L = shufLinks 4 hIn [1, 0] [0, 1] [1, 0] [0, 2] := ⟨_, rfl⟩
  rw [← hLK] at HM ⊢
  have hck := hChk
  rw [← hLK] at hck
  obtain ⟨hx10, hs10, hb10⟩ := Blk.box w9 28 [Value.slice A0 hMid.length c0, Value.slice A1 hOut.length c1, Value.slice A2 LK.length c2]
  rw [show (List.toArray [Value.slice A0 hMid.length c0, Value.slice A1 hOut.length c1, Value.slice A2 LK.length c2]) = #[Value.slice A0 hMid.length c0, Value.slice A1 hOut.length c1, Value.slice A2 LK.length c2] from rfl] at hx10 hs10 hb10
  generalize w9.alloc (Obj.cells #[Value.slice A0 hMid.length c0, Value.slice A1 hOut.length c1, Value.slice A2 LK.length c2] 28) = w10 at hx10 hs10 hb10 ⊢
  have HB10 := Lib.hid (HB9.out.trans (Below.mono hb10 HB9.out.size))
  refine (ballot_Check.calls 4 _ 2 hIn A0 c0 hMid A1 c1 hOut A2 c2 LK true 0 w10 (Kd.C_below HIN9.out hb10) (by decide) (Kd.C_below HM.out.2.1 hb10) HM.out.1 (Kd.C_below HM.out.2.2.2.1 hb10) HM.out.2.2.1 (Kd.C_below HM.out.2.2.2.2.2 hb10) HM.out.2.2.2.2.1 (TabOk.below HT.out HB10.out) (by unfold ballot_Check.f; rw [hck])).mono ?_
  rintro e w11 ⟨rfl, hb11⟩
  have hb911 := hb10.trans (Below.mono hb11 (by omega))
  have HX11 := Lib.hid (And.intro (HX9.out.1.below hb911 HX9.out.1.lt) (And.intro (HX9.out.2.below hb911 HX9.out.2.lt) (hx10.below hb11 hx10.lt)))
  have HB911 := Lib.hid hb911
  have HB11 := Lib.hid (HB9.out.trans (Below.mono hb911 HB9.out.size))
  clear hx10 hs10 hb10 hb11 hb911 hck hLK HX9 HB10
  go_wp2_with fail
  obtain ⟨w12, hw12, l1, l2, l3, l4, hb12, hs12⟩ := lits4 w11 1 1 0 1 1 0 0 2
  rw [hw12]
  have HB912 := Lib.hid (HB911.out.trans (Below.mono hb12 HB911.out.size))
  have HB12 := Lib.hid (HB11.out.trans (Below.mono hb12 HB11.out.size))
  refine (shuf_calls 4 _ 2 hIn _ 2 [1, 1] _ 2 [0, 1] _ 2 [1, 0] _ 2 [0, 2] w12 (Kd.C_below HIN9.out HB912.out) (by decide) l1 (by decide) l2 (by decide) l3 (by decide) l4 (by decide) (TabOk.below HT.out HB12.out) _ hBad).mono ?_
  rintro e w13 ⟨v0, v1, v2, rfl, o0, o1, o2, hb13⟩
  obtain ⟨A3, c3, rfl, -, -⟩ := Kd.R_reads o0
  obtain ⟨A4, c4, rfl, -, -⟩ := Kd.R_reads o1
  obtain ⟨A5, c5, rfl, -, -⟩ := Kd.R_reads o2
  have hb1113 := hb12.trans (Below.mono hb13 (by omega))
  have HX13 := Lib.hid (And.intro (HX11.out.1.below hb1113 HX11.out.1.lt) (And.intro (HX11.out.2.1.below hb1113 HX11.out.2.1.lt) (HX11.out.2.2.below hb1113 HX11.out.2.2.lt)))
  have HB913 := Lib.hid (HB911.out.trans (Below.mono hb1113 HB911.out.size))
  have HB13 := Lib.hid (HB11.out.trans (Below.mono hb1113 HB11.out.size))
  clear hw12 l1 l2 l3 l4 hb12 hs12 o0 o1 o2 hb13 hb1113 HX11 HB11 HB911 HB912 HB12
  go_wp2_with fail
  have hs14 := World.size_alloc w13 (Obj.cells #[Value.slice A3 0 c3, Value.slice A4 0 c4, Value.slice A5 0 c5] 28)
  have hb14 := (Below.refl w13.heap.size w13).alloc (Nat.le_refl _) (Obj.cells #[Value.slice A3 0 c3, Value.slice A4 0 c4, Value.slice A5 0 c5] 28)
  generalize w13.alloc (Obj.cells #[Value.slice A3 0 c3, Value.slice A4 0 c4, Value.slice A5 0 c5] 28) = w14 at hs14 hb14 ⊢
  obtain ⟨bl, hbl, hbl2⟩ := hAsk
  have HB14 := Lib.hid (HB13.out.trans (Below.mono hb14 HB13.out.size))
  have HB914 := Lib.hid (HB913.out.trans (Below.mono hb14 HB913.out.size))
  have hin := Kd.C_below HIN9.out HB914.out
  refine (ballot_Asked.calls _ 2 hIn _ 2 hIn _ 2 hIn bl 0 w14 hin (by decide) hin (by decide) hin (by decide) (TabOk.below HT.out HB14.out) (by unfold ballot_Asked.f; rw [hbl])).mono ?_
  rintro e w15 ⟨vb, rfl, ob, hb15⟩
  obtain ⟨Ab, cb, rfl, -, -⟩ := Kd.R_reads ob
  rw [hbl2]
  have hb1315 := hb14.trans (Below.mono hb15 (by omega))
  have hx15 := HX13.out.1.below hb1315 HX13.out.1.lt
  have hy15 := HX13.out.2.1.below hb1315 HX13.out.2.1.lt
  have hm15 := HX13.out.2.2.below hb1315 HX13.out.2.2.lt
  have x0 := hx15.cell 0 _ rfl
  have x1 := hx15.cell 1 _ rfl
  have y0 := hy15.cell 0 _ rfl
  have y1 := hy15.cell 1 _ rfl
  have m0 := hm15.cell 0 _ rfl
  have HM15 := Lib.hid hm15
  have HB15 := Lib.hid (HB13.out.trans (Below.mono hb1315 HB13.out.size))
  have HB915 := Lib.hid (HB913.out.trans (Below.mono hb1315 HB913.out.size))
  clear hs14 hb14 hbl hbl2 hin ob hb15 hb1315 hx15 hy15 hm15 HX13 HB13 HB913 HB14 HB914
  go_wp2_with fail
  have hl := lit2 w15 256 1024 16 64
  have hs16 := World.size_alloc w15 (Obj.cells #[Value.int IntKind.i64 256, Value.int IntKind.i64 1024, Value.int IntKind.i64 16, Value.int IntKind.i64 64] 23)
  have hb16 := (Below.refl w15.heap.size w15).alloc (Nat.le_refl _) (Obj.cells #[Value.int IntKind.i64 256, Value.int IntKind.i64 1024, Value.int IntKind.i64 16, Value.int IntKind.i64 64] 23)
  generalize w15.alloc (Obj.cells #[Value.int IntKind.i64 256, Value.int IntKind.i64 1024, Value.int IntKind.i64 16, Value.int IntKind.i64 64] 23) = w16 at hl hs16 hb16 ⊢
  refine (cohousingref40_SameCiphers.calls 10 A0 c0 hMid _ 2 hMid true w16 (Kd.C_below HM.out.2.1 (HB915.out.trans (Below.mono hb16 HB915.out.size))) HM.out.1 hl (by decide) (sameC_f hMid (by decide) 10 (by decide))).mono ?_
  rintro e w17 ⟨rfl, hd17⟩
  have hb17 := hb16.trans (Below.mono hd17.below (by omega))
  have m1 := (HM15.out.below hb17 HM15.out.lt).cell 1 _ rfl
  have HB17 := Lib.hid (HB15.out.trans (Below.mono hb17 HB15.out.size))
  have HB917 := Lib.hid (HB915.out.trans (Below.mono hb17 HB915.out.size))
  clear hl hs16 hb16 hd17 hb17 x0 x1 y0 y1 m0
  go_wp2_with fail
  have hl := lit2 w17 256 1024 256 1024
  have hs16 := World.size_alloc w17 (Obj.cells #[Value.int IntKind.i64 256, Value.int IntKind.i64 1024, Value.int IntKind.i64 256, Value.int IntKind.i64 1024] 23)
  have hb16 := (Below.refl w17.heap.size w17).alloc (Nat.le_refl _) (Obj.cells #[Value.int IntKind.i64 256, Value.int IntKind.i64 1024, Value.int IntKind.i64 256, Value.int IntKind.i64 1024] 23)
  generalize w17.alloc (Obj.cells #[Value.int IntKind.i64 256, Value.int IntKind.i64 1024, Value.int IntKind.i64 256, Value.int IntKind.i64 1024] 23) = w18 at hl hs16 hb16 ⊢
  refine (cohousingref40_SameCiphers.calls 10 A1 c1 hOut _ 2 hOut true w18 (Kd.C_below HM.out.2.2.2.1 (HB917.out.trans (Below.mono hb16 HB917.out.size))) HM.out.2.2.1 hl (by decide) (sameC_f hOut (by decide) 10 (by decide))).mono ?_
  rintro e w19 ⟨rfl, hd19⟩
  have HB19 := Lib.hid (HB17.out.trans (Below.mono (hb16.trans (Below.mono hd19.below (by omega))) HB17.out.size))
  clear hl hs16 hb16 hd19
  go_wp2_with fail
  go_ret
  exact ⟨rfl, HB19.out⟩
end Go.Proofs.YtkaebblbmoolaaaDoor.P
