/- Chapter 20: KeysEnough, walked. -/
import Derived.Test.YtcnkenknbmmglaaDoorLkC
import Derived.Test.YtcnkenknbmmglaaDoorXhead20
import Derived.Test.YtcnkenknbmmglaaDoorGp2R
import Derived.Test.YtcnkenknbmmglaaDoorPx17
set_option linter.unusedSimpArgs false
set_option linter.unusedVariables false
namespace Go.Proofs.YtcnkenknbmmglaaDoor.P
open Go Go.RowKit Go.Proofs.YtcnkenknbmmglaaDoorW.PrintWords Go.Proofs.YtcnkenknbmmglaaDoorW.PrintLast Go.Proofs.YtcnkenknbmmglaaDoorW.PrintMore Go.Proofs.YtcnkenknbmmglaaDoor.Ord

theorem wf_u64' {a : Int} (h : (Lit.int .u16 a).wf = true) : 0 ≤ a ∧ a ≤ 65535 := by
  simp [Lit.wf, IntKind.min, IntKind.max, IntKind.bits, IntKind.signed] at h
  omega
theorem lit_V1 (W : World) (a : S28) : Kd.C k28 (W.alloc (Obj.cells #[.int .i64 a.f0, .int .i64 a.f1, .int .i64 a.f2, .int .i64 a.f3, .int .i64 a.f4.f0, .int .i64 a.f4.f1] 28)) (some ⟨W.heap.size, 0, none⟩) 1 [a] :=
  C_parts (d := k28) W [a] [vC a] 28 (by simp) ⟨k28_mk _ _, trivial⟩
theorem vouch_parts {h p on b : Int} {key once : Nat} (h0 : homeV h = true) (h1 : homeV b = true) (h2 : h ≠ b) (h3 : keyV p = true) (h4 : dayV on = true) (k0 : 0 < key) (k1 : key < 1073741789) (o0 : 0 < once) (o1 : once < 1073741789) :
    ∃ a0 a1 : Int, mkV h p on b key once = ⟨h, p, on, b, ⟨a0, a1⟩⟩ ∧ keys_Vouch.f 12 h p on b key once = some (h, p, on, b, a0, a1, 0) := by
  refine ⟨(signV key once [h, p, on]).1, (signV key once [h, p, on]).2.1, rfl, ?_⟩
  rw [vouch_f _ _ _ _ _ _ _ (by omega)]
  unfold vouchV
  rw [vouch_ok (h := h) (p := p) (on := on) (b := b) h0 h1 h2 h3 h4 k0 k1 o0 o1, if_pos rfl]
theorem wf_u8' {a : Int} (h : (Lit.int .u8 a).wf = true) : 0 ≤ a ∧ a ≤ 255 := by
  simp [Lit.wf, IntKind.min, IntKind.max, IntKind.bits, IntKind.signed] at h
  omega
theorem info_V : (Tryd.prog.info? 28).map (fun i => (i.zero, i.size, i.bytes)) = some (some (.agg #[(.int .i64 0), (.int .i64 0), (.int .i64 0), (.int .i64 0), (.int .i64 0), (.int .i64 0)]), 6, 48) := by kernel_rfl
theorem four_get (n0 n1 n2 n3 : Int) (j : Nat) (hj : j < 3) : ([.int .u64 n0, .int .u64 n1, .int .u64 n2, .int .u64 n3] : List Value)[j]? = some (.int .u64 (fourI n0 n1 n2 n3 j)) := by
  match j, hj with
  | 0, _ => rfl
  | 1, _ => rfl
  | 2, _ => rfl
theorem four_wf {n0 n1 n2 n3 : Int} (h0 : (Lit.int .u64 n0).wf = true) (h1 : (Lit.int .u64 n1).wf = true) (h2 : (Lit.int .u64 n2).wf = true) (j : Nat) (hj : j < 3) : (Lit.int .u64 (fourI n0 n1 n2 n3 j)).wf = true := by
  match j, hj with
  | 0, _ => exact h0
  | 1, _ => exact h1
  | 2, _ => exact h2
theorem wf_of_u64 {a : Int} (h0 : 0 ≤ a) (h1 : a < 18446744073709551616) : (Lit.int .u64 a).wf = true := by
  simp [Lit.wf, IntKind.min, IntKind.max, IntKind.bits, IntKind.signed]
  omega
theorem same_l0 (l : List S49) (hl : l.length ≤ 2000) : ∀ (d i k : Nat), l.length - i = d → i ≤ l.length → d + 1 ≤ k → cohousingref20_Same.l0 k l l (i : Int) = some true
  | 0, i, k, h1, h2, h3 => by
    obtain ⟨k, rfl⟩ : ∃ m, k = m + 1 := ⟨k - 1, by omega⟩
    obtain rfl : i = l.length := by omega
    rw [cohousingref20_Same.l0, if_neg (by omega)]
  | d + 1, i, k, h1, h2, h3 => by
    obtain ⟨k, rfl⟩ : ∃ m, k = m + 1 := ⟨k - 1, by omega⟩
    have ih := same_l0 l hl d (i + 1) k (by omega) (by omega) (by omega)
    have hw : wrap64 ((i : Int) + 1) = ((i + 1 : Nat) : Int) := by unfold wrap64; omega
    rw [cohousingref20_Same.l0, if_pos (by omega), if_pos (by omega), if_pos (by omega), hw, ih]
    simp
theorem same_self (l : List S49) (hl : l.length ≤ 2000) : cohousingref20_Same.f 2100 l l = some true := by
  unfold cohousingref20_Same.f
  rw [if_pos rfl]
  exact same_l0 l hl l.length 0 2100 rfl (Nat.zero_le _) (by omega)
/-- A walk that halts. -/
structure Stop (p : Prop) : Prop where
  out : p
set_option maxHeartbeats 8000000 in
set_option maxRecDepth 100000 in
theorem enough_walk (n0 n1 n2 n3 fresh once many need day : Int) (w : World) (hT : TabOk w) (h0 : (Lit.int .u64 n0).wf = true) (h1 : (Lit.int .u64 n1).wf = true) (h2 : (Lit.int .u64 n2).wf = true) (h3 : (Lit.int .u64 n3).wf = true) (h4 : (Lit.int .u64 fresh).wf = true) (h5 : (Lit.int .u64 once).wf = true) (h6 : (Lit.int .u8 many).wf = true) (h7 : (Lit.int .u8 need).wf = true) (h8 : (Lit.int .u16 day).wf = true) :
    Calls Tryd.prog 5 #[.agg #[.int .u64 n0, .int .u64 n1, .int .u64 n2, .int .u64 n3], .int .u64 fresh, .int .u64 once, .int .u8 many, .int .u8 need, .int .u16 day] w fun e w' => e = .returned (.bool true) ∧ Below w.heap.size w w' := by
  have HT := Lib.hid hT
  have HW := Lib.hid (And.intro h0 (And.intro h1 (And.intro h2 (And.intro h3 (And.intro h4 h5)))))
  obtain ⟨d0, d1⟩ := wf_u64' h8
  obtain ⟨d2, d3⟩ := wf_u8' h6
  obtain ⟨d4, d5⟩ := wf_u8' h7
  have HO := Lib.hid (wf_u64 h5)
  clear hT h0 h1 h2 h3 h4 h5 h6 h7 h8
  go_enter Tryd.func5, Tryd.ntmps5
  go_wp2_with fail
  obtain ⟨hx1, -, hb1⟩ := Blk.box w 44 [.int .u64 n0, .int .u64 n1, .int .u64 n2, .int .u64 n3]
  rw [show (List.toArray [Value.int .u64 n0, .int .u64 n1, .int .u64 n2, .int .u64 n3]) = #[.int .u64 n0, .int .u64 n1, .int .u64 n2, .int .u64 n3] from rfl] at hx1 hb1
  generalize w.alloc (Obj.cells #[.int .u64 n0, .int .u64 n1, .int .u64 n2, .int .u64 n3] 44) = w1 at *
  have HX1 := Lib.hid hx1
  have HB1 := Lib.hid hb1
  clear hx1 hb1
  refine (cohousinglaw20_head.calls true w1 (TabOk.below HT.out HB1.out) rfl).mono ?_
  rintro e w2 ⟨rfl, hd⟩
  have HX2 := Lib.hid (HX1.out.below hd HX1.out.lt)
  have HB2 := Lib.hid (HB1.out.trans (Below.mono hd HB1.out.size))
  clear hd HX1 HB1
  have c0 := HX2.out.cell 0 _ rfl
  have c1 := HX2.out.cell 1 _ rfl
  have c2 := HX2.out.cell 2 _ rfl
  have c3 := HX2.out.cell 3 _ rfl
  go_wp2_with fail
  clear c0 c1 c2 c3
  refine (vill_calls n0 n1 n2 n3 w2 HW.out.1 HW.out.2.1 HW.out.2.2.1 HW.out.2.2.2.1).mono ?_
  rintro e w3 ⟨v3, rfl, hR3, hd⟩
  have HX3 := Lib.hid (HX2.out.below hd HX2.out.lt)
  have HB3 := Lib.hid (HB2.out.trans (Below.mono hd HB2.out.size))
  obtain ⟨A3, n3', hv3, p3, q3⟩ := Kd.R_reads hR3
  subst hv3
  rw [show (villV n0 n1 n2 n3).length = 4 from rfl] at p3 q3 ⊢
  have HV3 := Lib.hid (And.intro p3 q3)
  have HVR := Lib.hid (And.intro hR3 hd)
  clear hd HX2 hR3 p3 q3
  go_wp2_with fail
  refine (cohousingref08_Secret.calls fresh (sec fresh) w3 (refSecretOf_f _ HW.out.2.2.2.2.1)).mono ?_
  rintro e w4 ⟨rfl, hd⟩
  have HX4 := Lib.hid (HX3.out.below hd.below HX3.out.lt)
  have HB4 := Lib.hid (HB3.out.trans (Below.mono hd.below HB3.out.size))
  have HV4 := Lib.hid (And.intro HV3.out.1 (Kd.C_below HV3.out.2 hd.below))
  have HK4 := Lib.hid (show Below w3.heap.size w3 w4 from hd.below)
  clear hd HX3 HB3 HV3
  go_wp2_with fail
  refine (cohousinglaw20_pub.calls 40 (sec fresh) (pub (sec fresh)) w4 (pub_f _ (sec_lt fresh).2 40 (by omega))).mono ?_
  rintro e w5 ⟨rfl, hd⟩
  have HX5 := Lib.hid (HX4.out.below hd.below HX4.out.lt)
  have HB5 := Lib.hid (HB4.out.trans (Below.mono hd.below HB4.out.size))
  have HV5 := Lib.hid (And.intro HV4.out.1 (Kd.C_below HV4.out.2 hd.below))
  have HK5 := Lib.hid (show Below w3.heap.size w3 w5 from HK4.out.trans (Below.mono hd.below HK4.out.size))
  clear hd HX4 HB4 HV4
  have e1 : IntKind.i64.wrap day = day := by rw [IntKind.wrap_i64]; omega
  have e2 : Int.tmod day 36524 = day % 36524 := Int.tmod_eq_emod_of_nonneg d0
  have e3 : IntKind.i64.wrap (1 + day % 36524) = 1 + day % 36524 := by rw [IntKind.wrap_i64]; omega
  have e4 : IntKind.i64.wrap many = many := by rw [IntKind.wrap_i64]; omega
  have e5 : Int.tmod many 3 = many % 3 := Int.tmod_eq_emod_of_nonneg d2
  have e6 : IntKind.i64.wrap (1 + many % 3) = 1 + many % 3 := by rw [IntKind.wrap_i64]; omega
  have e7 : IntKind.i64.wrap need = need := by rw [IntKind.wrap_i64]; omega
  have e8 : Int.tmod need 3 = need % 3 := Int.tmod_eq_emod_of_nonneg d4
  have e9 : IntKind.i64.wrap (1 + need % 3) = 1 + need % 3 := by rw [IntKind.wrap_i64]; omega
  go_wp2_with fail
  obtain ⟨on, hon⟩ : ∃ o, 1 + day % 36524 = o := ⟨_, rfl⟩
  obtain ⟨K, hK⟩ : ∃ K : Nat, 1 + many % 3 = (K : Int) := ⟨(1 + many % 3).toNat, by omega⟩
  obtain ⟨want, hwant⟩ : ∃ o, 1 + need % 3 = o := ⟨_, rfl⟩
  obtain ⟨tp, htp⟩ : ∃ p : Int, (pub (sec fresh) : Int) = p := ⟨_, rfl⟩
  have HTP := Lib.hid (show keyV tp = true by rw [← htp]; exact keyV_sec _)
  rw [hon] at e3 ⊢
  rw [hK] at e6 ⊢
  rw [hwant] at e9 ⊢
  rw [htp]
  have hon2 : 1 ≤ on ∧ on ≤ 36524 := by omega
  have hK1 : 1 ≤ K ∧ K ≤ 3 := by omega
  have hw1 : 1 ≤ want ∧ want ≤ 3 := by omega
  have HN := Lib.hid (And.intro hon2 hw1)
  clear e1 e2 e3 e4 e5 e6 e7 e8 e9 hon hK hwant htp d0 d1 d2 d3 d4 d5 hon2 hw1
  obtain ⟨L, hL⟩ : ∃ L, enL n0 n1 n2 n3 tp on once = L := ⟨_, rfl⟩
  have HL := Lib.hid hL
  clear hL
  go_loopw [19, 20, 21] (fun u t i wr => ∃ j : Nat, j ≤ K ∧ i = .int .i64 ((j : Int) + 1) ∧ Hid (Below w5.heap.size w5 wr) ∧ Hid (Kd.R k28 28 wr w5.heap.size (fun k => some k ≠ t.ownBlock) u (L.take j)) ∧ Hid (Kd.R k28 28 wr w5.heap.size (fun k => True ∧ some k ≠ u.ownBlock) t (L.take j).reverse)) (fun _ _ i _ => K + 1 - (intOf i).toNat)
  case atStart => exact ⟨0, by omega, rfl, Lib.hid (Below.refl _ _), Kd.R_nil _ _ _ _ _, Kd.R_nil _ _ _ _ _⟩
  case round =>
    obtain ⟨j, hj, rfl, hB, hU0, hS0⟩ := hrel
    obtain ⟨P, hP⟩ : ∃ P, L.take j = P := ⟨_, rfl⟩
    obtain ⟨Q, hQ⟩ : ∃ Q, P.reverse = Q := ⟨_, rfl⟩
    have hU := Lib.hid (Kd.R_mono hU0.out (ok' := fun _ => True) (fun _ _ => trivial))
    have hUT := Lib.hid hU0.out
    have hS := Lib.hid hS0.out
    rw [hP] at hU hS hUT
    rw [hQ] at hS
    have HPQ := Lib.hid (And.intro hP hQ)
    have hPl : P.length ≤ j := by rw [← hP, List.length_take]; omega
    have hQl : Q.length ≤ j := by rw [← hQ, List.length_reverse]; exact hPl
    clear hU0 hS0 hP hQ
    obtain ⟨At, ct, rfl, pt, qt⟩ := Kd.R_reads hS.out
    have HCT := Lib.hid (And.intro pt qt)
    clear pt qt
    by_cases hlt : j < K
    · have g1 : IntKind.i64.wrap ((j : Int) + 1 - 1) = (j : Int) := by rw [IntKind.wrap_i64]; omega
      have g2 : IntKind.i64.wrap ((j : Int) + 1 + 1) = (j : Int) + 1 + 1 := by rw [IntKind.wrap_i64]; omega
      have g3 : Int.tmod once 1073741789 = once % 1073741789 := Int.tmod_eq_emod_of_nonneg HO.out.1
      have g4 : IntKind.u64.wrap ((j : Int) + 1) = (j : Int) + 1 := by rw [IntKind.wrap_u64]; omega
      have g5 : IntKind.u64.wrap (once % 1073741789 + ((j : Int) + 1)) = once % 1073741789 + ((j : Int) + 1) := by rw [IntKind.wrap_u64]; omega
      obtain ⟨z, hz⟩ : ∃ z, fourI n0 n1 n2 n3 j = z := ⟨_, rfl⟩
      have hxr : Blk wr w.heap.size 44 [.int .u64 n0, .int .u64 n1, .int .u64 n2, .int .u64 n3] := HX5.out.below hB.out HX5.out.lt
      have hc : wr.cell? ⟨w.heap.size, j, none⟩ = some (.int .u64 z) := hxr.cell j _ (by rw [← hz]; exact four_get n0 n1 n2 n3 j (by omega))
      have hwf : (Lit.int .u64 z).wf = true := by rw [← hz]; exact four_wf HW.out.1 HW.out.2.1 HW.out.2.2.1 j (by omega)
      have HZ := Lib.hid (And.intro hz hwf)
      have hle : (j : Int) + 1 ≤ (K : Int) := by omega
      clear hz hwf hxr
      go_wp2_with fail
      refine (cohousingref08_Secret.calls z (sec z) wr (refSecretOf_f z HZ.out.2)).mono ?_
      rintro e w6 ⟨rfl, hd⟩
      have HB6 := Lib.hid (hB.out.trans (Below.mono hd.below hB.out.size))
      have HU6 := Lib.hid (Kd.R_below hU.out hd.below)
      have HS6 := Lib.hid (Kd.R_below hS.out hd.below)
      clear hd hB hU hS hc
      obtain ⟨oi, hoi⟩ : ∃ o, once % 1073741789 + ((j : Int) + 1) = o := ⟨_, rfl⟩
      rw [hoi] at g5
      have hwo : (Lit.int .u64 oi).wf = true := wf_of_u64 (by omega) (by omega)
      have HOI := Lib.hid (And.intro hoi hwo)
      go_wp2_with fail
      clear g3 g4 g5 hwo
      try rw [hoi]
      refine (cohousingref08_Secret.calls oi (sec oi) w6 (refSecretOf_f oi HOI.out.2)).mono ?_
      rintro e w7 ⟨rfl, hd⟩
      have HB7 := Lib.hid (HB6.out.trans (Below.mono hd.below HB6.out.size))
      have HU7 := Lib.hid (Kd.R_below HU6.out hd.below)
      have HS7 := Lib.hid (Kd.R_below HS6.out hd.below)
      clear hd HB6 HU6 HS6 hoi
      go_wp2_with fail
      obtain ⟨a0, a1, hm, hf⟩ := vouch_parts (h := 4) (p := tp) (on := on) (b := (j : Int) + 1) (key := sec z) (once := sec oi) rfl (homeV_iff.2 (by omega)) (by omega) HTP.out (dayV_iff.2 (by have := HN.out.1; omega)) (sec_lt _).1 (sec_lt _).2 (sec_lt _).1 (sec_lt _).2
      have HF := Lib.hid hf
      have HX := Lib.hid (show enX n0 n1 n2 n3 tp on once j = ⟨4, tp, on, (j : Int) + 1, ⟨a0, a1⟩⟩ by unfold enX; rw [HZ.out.1, HOI.out.1, hm])
      clear hm hf
      refine (keys_Vouch.calls 12 4 tp on ((j : Int) + 1) (sec z) (sec oi) 4 tp on ((j : Int) + 1) a0 a1 0 w7 (TabOk.below HT.out (HB5.out.trans (Below.mono HB7.out HB5.out.size))) HF.out).mono ?_
      rintro e w8 ⟨rfl, hd⟩
      have HB8 := Lib.hid (HB7.out.trans (Below.mono hd HB7.out.size))
      have HU8 := Lib.hid (Kd.R_below HU7.out hd)
      have HS8 := Lib.hid (Kd.R_below HS7.out hd)
      clear hd HB7 HU7 HS7
      have HLN := Lib.hid (show P.length ≤ 3 ∧ Q.length ≤ 3 from ⟨by omega, by omega⟩)
      obtain ⟨hx, hs, hb⟩ := Blk.box w8 28 [.int .i64 4, .int .i64 tp, .int .i64 on, .int .i64 ((j : Int) + 1), .int .i64 a0, .int .i64 a1]
      rw [show (List.toArray [Value.int .i64 4, .int .i64 tp, .int .i64 on, .int .i64 ((j : Int) + 1), .int .i64 a0, .int .i64 a1]) = #[.int .i64 4, .int .i64 tp, .int .i64 on, .int .i64 ((j : Int) + 1), .int .i64 a0, .int .i64 a1] from rfl] at hx hs hb
      have HB9 := Lib.hid (HB8.out.alloc HB8.out.size (.cells #[.int .i64 4, .int .i64 tp, .int .i64 on, .int .i64 ((j : Int) + 1), .int .i64 a0, .int .i64 a1] 28))
      have HU9 := Lib.hid (Kd.R_below HU8.out hb)
      have HS9 := Lib.hid (Kd.R_below HS8.out hb)
      have HBX := Lib.hid (And.intro hx hs)
      have k0 := hx.cell 0 _ rfl
      have k1 := hx.cell 1 _ rfl
      have k2 := hx.cell 2 _ rfl
      have k3 := hx.cell 3 _ rfl
      have k4 := hx.cell 4 _ rfl
      have k5 := hx.cell 5 _ rfl
      clear hx hs hb k0 k1 k2 k3 k4 k5
      go_wp2_with ((with_reducible refine gate_builtin (b := .append) (xs := #[.tmp 71, .tmp 73]) rfl ?_); at_builtin; refine Stop.out ?_)
      refine ⟨?_⟩
      refine Kd.R_append k28 (w0 := w5) w5.heap.size rfl (.tmp 71) (.tmp 73) 24 28 (.agg #[(.int .i64 0), (.int .i64 0), (.int .i64 0), (.int .i64 0), (.int .i64 0), (.int .i64 0)]) 48 rfl Tryd.underlying24 info_V rfl (by decide) (by omega) _ P (⟨4, tp, on, (j : Int) + 1, ⟨a0, a1⟩⟩ : S28) [.int .i64 4, .int .i64 tp, .int .i64 on, .int .i64 ((j : Int) + 1), .int .i64 a0, .int .i64 a1] (fun _ => True) (fun _ => False) rfl (by first | rfl | go_simp) ?aP (fun _ hk => hk.elim) (fun _ _ => trivial) HU9.out HB9.out HB9.out.size ?aL ?_
      case aP => exact k28_mkM _ _ _ (⟨4, tp, on, (j : Int) + 1, ⟨a0, a1⟩⟩ : S28)
      case aL => have := HLN.out; omega
      intro v10 w10 ho hb hg hat
      have HU10 := Lib.hid ho
      have HB10 := Lib.hid hb
      have HS10 := Lib.hid (Kd.R_after HS9.out hg hat)
      have HBX10 := Lib.hid (HBX.out.1.grown hg (fun e => by have h := Kd.R_lt HU8.out w8.heap.size e.symm; omega))
      clear ho hb hg hat
      have k0 := HBX10.out.cell 0 _ rfl
      have k1 := HBX10.out.cell 1 _ rfl
      have k2 := HBX10.out.cell 2 _ rfl
      have k3 := HBX10.out.cell 3 _ rfl
      have k4 := HBX10.out.cell 4 _ rfl
      have k5 := HBX10.out.cell 5 _ rfl
      go_wp2_with ((with_reducible refine gate_dst (N := 76) rfl ?_); refine Stop.out ?_)
      refine ⟨?_⟩
      refine Kd.R_lit k28 (w0 := w5) w5.heap.size 28 ?hg (N := 76) ?hd (xs := [(⟨4, tp, on, (j : Int) + 1, ⟨a0, a1⟩⟩ : S28)]) (inner := [.int .i64 4, .int .i64 tp, .int .i64 on, .int .i64 ((j : Int) + 1), .int .i64 a0, .int .i64 a1]) (ok := fun k => some k ≠ v10.ownBlock) (okp := fun _ => False) ?hr ?hp (fun _ hk => hk.elim) ?hf HB10.out HB10.out.size (by simp) ?_
      case hd => rfl
      case hg => rfl
      case hr => first | (go_simp; done) | (go_simp; rfl)
      case hp => exact Reps.c6 (k28_mkM _ _ _ (⟨4, tp, on, (j : Int) + 1, ⟨a0, a1⟩⟩ : S28)) (Reps.none _ _)
      case hf => exact (fun e => by have h := Kd.R_lt HU10.out _ e.symm; omega)
      intro v11 w11 ho hb hg hnew
      have HT11 := Lib.hid ho
      have HB11 := Lib.hid hb
      have HG11 := Lib.hid (And.intro hg hnew)
      clear ho hb hg hnew k0 k1 k2 k3 k4 k5
      have HS11 := Lib.hid (Kd.R_grown HS10.out HG11.out.1 (fun _ _ => by simp))
      have HU11 := Lib.hid (Kd.R_grown (Kd.R_bound HU10.out) HG11.out.1 (fun _ _ => by simp))
      have HC11 := Lib.hid (show ∃ n, ct = n ∧ Kd.C k28 w11 At Q.length Q from by
        obtain ⟨A', n', e', -, q'⟩ := Kd.R_reads HS11.out
        cases e'
        exact ⟨_, rfl, q'⟩)
      have HSZ := Lib.hid (show w10.heap.size ≤ w11.heap.size from HG11.out.1.size)
      have HB10s := Lib.hid (show w10.heap.size = w10.heap.size from rfl)
      go_wp2_with ((with_reducible refine gate_builtin (b := .append) (xs := #[.tmp 76, .tmp 77]) rfl ?_); at_builtin; refine Stop.out ?_)
      refine ⟨?_⟩
      refine Kd.R_append_rows k28 (w0 := w5) w5.heap.size rfl (.tmp 76) (.tmp 77) 24 28 (.agg #[(.int .i64 0), (.int .i64 0), (.int .i64 0), (.int .i64 0), (.int .i64 0), (.int .i64 0)]) 48 rfl Tryd.underlying24 info_V rfl (by decide) (by omega) v11 [(⟨4, tp, on, (j : Int) + 1, ⟨a0, a1⟩⟩ : S28)] Q _ _ _ (fun k => some k ≠ v10.ownBlock) (fun _ => False) rfl rfl ?aO ?aR (fun _ _ h => h) (fun _ h => h.elim) ?aF HB11.out HB11.out.size ?aL ?_
      case aO => exact HT11.out
      case aR => obtain ⟨n, -, hc⟩ := HC11.out; exact hc
      case aF =>
        intro k hk e
        have h := Kd.R_lt HU10.out k e.symm
        have := HSZ.out
        omega
      case aL => have := HLN.out; simp; omega
      intro v12 w12 ho hb hg hat
      have HU12 := Lib.hid (show Kd.R k28 28 w12 w5.heap.size (fun k => some k ≠ v12.ownBlock) v10 (L.take (j + 1)) from by
        have h := Kd.R_grown HU11.out hg (fun k hk e => by
          obtain ⟨b, hb1, hb2⟩ := HG11.out.2
          rw [hb1] at e
          have := Option.some.inj e
          have := hk.2.2.1
          omega)
        have h2 := Kd.R_mono h (ok' := fun k => some k ≠ v12.ownBlock) (fun k hk e => by
          have hlt := hk.2.2.1
          obtain ⟨b, hb1, hb2⟩ := HG11.out.2
          have hsz := HSZ.out
          rcases hat with ha | ⟨b', hb3, hb4⟩
          · rw [ha, hb1] at e
            have := Option.some.inj e
            omega
          · rw [hb3] at e
            have := Option.some.inj e
            omega)
        rw [← HX.out, ← HPQ.out.1] at h2
        rw [← HL.out] at h2 ⊢
        rw [enL_take n0 n1 n2 n3 tp on once j (by omega)]
        exact h2)
      have HS12 := Lib.hid (show Kd.R k28 28 w12 w5.heap.size (fun k => True ∧ some k ≠ v10.ownBlock) v12 (L.take (j + 1)).reverse from by
        have h2 := Kd.R_mono ho (ok' := fun k => True ∧ some k ≠ v10.ownBlock) (fun _ hk => ⟨trivial, hk⟩)
        rw [← HX.out, ← HPQ.out.2, ← HPQ.out.1] at h2
        rw [← HL.out] at h2 ⊢
        rw [enL_rev n0 n1 n2 n3 tp on once j (by omega)]
        exact h2)
      have HB12 := Lib.hid hb
      clear ho hb hg hat
      go_wp2_with fail
      go_roundw
      case rel => exact ⟨j + 1, by omega, by go_num, HB12, HU12, HS12⟩
      case measure => simp [intOf]; omega
    · obtain rfl : j = K := by omega
      have hle : ¬ (j : Int) + 1 ≤ (j : Int) := by omega
      obtain ⟨Au, cu, rfl, pu, qu⟩ := Kd.R_reads hU.out
      have hpl : P.length = j := by rw [← HPQ.out.1, List.length_take, ← HL.out]; simp [enL]; omega
      obtain ⟨ad, eA, d0, d1, d2, d3, d4, d5⟩ := at_T28 qu 0 (by omega) (by omega)
      subst eA
      have ea : ad.add 0 = ad := rfl
      simp only [Int.toNat_zero, Nat.zero_mul, ea] at d0 d1 d2 d3 d4 d5
      obtain ⟨y, hy⟩ : ∃ y, rd_T28 P 0 = y := ⟨_, rfl⟩
      rw [hy] at d0 d1 d2 d3 d4 d5
      have HY := Lib.hid (show y = enX n0 n1 n2 n3 tp on once 0 by
        rw [← hy, ← HPQ.out.1, ← HL.out]
        obtain ⟨q, hq⟩ : ∃ q, j = q + 1 := ⟨j - 1, by omega⟩
        rw [hq]
        rfl)
      have HCU := Lib.hid (And.intro pu (And.intro qu hpl))
      have h0i : (0 : Int) < (P.length : Int) := by omega
      clear pu qu hy ea hpl
      have HDE := Lib.hid (And.intro d0 d1)
      go_wp2_with ((with_reducible refine gate_builtin (b := .append) (xs := #[.tmp 79, .tmp 83]) rfl ?_); at_builtin; refine Stop.out ?_)
      refine ⟨?_⟩
      refine Kd.R_append k28 (w0 := w5) w5.heap.size rfl (.tmp 79) (.tmp 83) 24 28 (.agg #[(.int .i64 0), (.int .i64 0), (.int .i64 0), (.int .i64 0), (.int .i64 0), (.int .i64 0)]) 48 rfl Tryd.underlying24 info_V rfl (by decide) (by omega) (.slice At Q.length ct) Q y [.int .i64 y.f0, .int .i64 y.f1, .int .i64 y.f2, .int .i64 y.f3, .int .i64 y.f4.f0, .int .i64 y.f4.f1] (fun _ => True) (fun _ => False) rfl (by first | rfl | go_simp) ?aP (fun _ hk => hk.elim) (fun _ _ => trivial) ?aO hB.out hB.out.size ?aL ?_
      case aP => exact k28_mkM _ _ _ y
      case aO => exact Kd.R_mono hS.out (fun _ _ => trivial)
      case aL => omega
      intro v13 w13 ho hb hg hat
      obtain ⟨A13, n13, rfl, p13, q13⟩ := Kd.R_reads ho
      have hPC := Kd.R_grown hUT.out hg (fun k hk => hk)
      have HP13 := Lib.hid (show Kd.C k28 w13 (some ad) P.length P from by
        obtain ⟨A', n', e', -, q'⟩ := Kd.R_reads hPC
        cases e'
        exact q')
      have HB13 := Lib.hid (HB5.out.trans (Below.mono hb HB5.out.size))
      have HV13 := Lib.hid (And.intro HV5.out.1 (Kd.C_below HV5.out.2 hb))
      have HQ13 := Lib.hid (And.intro p13 q13)
      obtain ⟨R2, hR2⟩ : ∃ R2, Q ++ [y] = R2 := ⟨_, rfl⟩
      have hl13 : (Q ++ [y]).length = Q.length + 1 := by simp
      rw [hR2] at HQ13 hl13 ⊢
      have HR2 := Lib.hid hR2
      have HK13 := Lib.hid (show Below w3.heap.size w3 w13 from HK5.out.trans (Below.mono hb HK5.out.size))
      have HCU2 := Lib.hid HCU.out.1
      clear ho hb hg hat p13 q13 hPC hR2 HCU d0 d1 d2 d3 d4 d5
      obtain ⟨c1, c2⟩ := enough_core n0 n1 n2 n3 tp on once want j HTP.out HN.out.1 HN.out.2 hK1.1 hK1.2
      obtain ⟨RES, hRES⟩ : ∃ r, (if (j : Int) < want then ([], 33) else (villV n0 n1 n2 n3 ++ [⟨4, tp, on⟩], 0) : List S49 × Int) = r := ⟨_, rfl⟩
      obtain ⟨m, er⟩ := RES
      have HR1 := Lib.hid (show renewV (villV n0 n1 n2 n3) [1, 2, 3] want P = (m, er) by rw [← HPQ.out.1, ← HL.out, c1, hRES])
      have HR3 := Lib.hid (show renewV (villV n0 n1 n2 n3) [1, 2, 3] want R2 = (m, er) by rw [← HR2.out, ← HPQ.out.2, ← HPQ.out.1, ← HL.out, HY.out, c2, hRES])
      have HRES := Lib.hid hRES
      have HL13 := Lib.hid hl13
      clear c1 c2 hRES hl13
      go_wp2_with fail
      obtain ⟨hx, hs, hb⟩ := Blk.box w13 3 [.int .i64 1, .int .i64 2, .int .i64 3]
      rw [show (List.toArray [Value.int .i64 1, .int .i64 2, .int .i64 3]) = #[.int .i64 1, .int .i64 2, .int .i64 3] from rfl] at hx hs hb
      generalize w13.alloc (Obj.cells #[.int .i64 1, .int .i64 2, .int .i64 3] 3) = w14 at *
      have HB14 := Lib.hid (HB13.out.trans (Below.mono hb HB13.out.size))
      have HK14 := Lib.hid (HK13.out.trans (Below.mono hb HK13.out.size))
      refine (keys_Renew.calls A3 n3' (villV n0 n1 n2 n3) (some ⟨w13.heap.size, 0, none⟩) 3 [1, 2, 3] want (some ad) cu P m er w14 (Kd.C_below HV13.out.2 hb) HV13.out.1 (C_blk3 hx) (Nat.le_refl _) (Kd.C_below HP13.out hb) HCU2.out (TabOk.below HT.out HB14.out) (congrArg some HR1.out)).mono ?_
      rintro e w15 ⟨v15, rfl, hR, hd⟩
      have HB15 := Lib.hid (HB14.out.trans (Below.mono hd HB14.out.size))
      have HK15 := Lib.hid (HK14.out.trans (Below.mono hd HK14.out.size))
      have HV15 := Lib.hid (And.intro HV13.out.1 (Kd.C_below HV13.out.2 (Below.trans hb (Below.mono hd (by omega)))))
      have HQ15 := Lib.hid (Kd.C_below HQ13.out.2 (Below.trans hb (Below.mono hd (by omega))))
      have HA15 := Lib.hid (And.intro hR HK14.out.size)
      clear hx hs hb hR hd HB13 HK13 HV13 HP13 HB14 HK14
      go_wp2_with fail
      obtain ⟨hx, hs, hb⟩ := Blk.box w15 3 [.int .i64 1, .int .i64 2, .int .i64 3]
      rw [show (List.toArray [Value.int .i64 1, .int .i64 2, .int .i64 3]) = #[.int .i64 1, .int .i64 2, .int .i64 3] from rfl] at hx hs hb
      generalize w15.alloc (Obj.cells #[.int .i64 1, .int .i64 2, .int .i64 3] 3) = w16 at *
      have HB16 := Lib.hid (HB15.out.trans (Below.mono hb HB15.out.size))
      have HK16 := Lib.hid (HK15.out.trans (Below.mono hb HK15.out.size))
      have hc := keys_Renew.calls A3 n3' (villV n0 n1 n2 n3) (some ⟨w15.heap.size, 0, none⟩) 3 [1, 2, 3] want A13 n13 R2 m er w16 (Kd.C_below HV15.out.2 hb) HV15.out.1 (C_blk3 hx) (Nat.le_refl _) (Kd.C_below HQ15.out hb) HQ13.out.1 (TabOk.below HT.out HB16.out) (congrArg some HR3.out)
      refine hc.mono ?_
      rintro e w17 ⟨v17, rfl, hR, hd⟩
      have HB17 := Lib.hid (HB16.out.trans (Below.mono hd HB16.out.size))
      have HK17 := Lib.hid (HK16.out.trans (Below.mono hd HK16.out.size))
      have HA17 := Lib.hid (And.intro (Kd.R_below HA15.out.1 (Below.trans hb (Below.mono hd (by omega)))) HA15.out.2)
      have HC17 := Lib.hid (And.intro hR HK16.out.size)
      clear hc hx hs hb hR hd HB15 HK15 HV15 HQ15 HA15 HB16 HK16 HQ13
      obtain ⟨Aa, na, rfl, pa, qa⟩ := Kd.R_reads HA17.out.1
      obtain ⟨Ab, nb, rfl, pb, qb⟩ := Kd.R_reads HC17.out.1
      have HM := Lib.hid (And.intro pa (And.intro qa (And.intro pb qb)))
      clear pa qa pb qb
      by_cases hlw : (j : Int) < want
      · have hres := HRES.out
        rw [if_pos hlw] at hres
        cases hres
        go_wp2_with fail
        go_ret
        exact ⟨by first | rfl | simp, HB17.out⟩
      · have hres := HRES.out
        rw [if_neg hlw] at hres
        obtain ⟨M, hM⟩ : ∃ M, villV n0 n1 n2 n3 ++ [(⟨4, tp, on⟩ : S49)] = M := ⟨_, rfl⟩
        rw [hM] at hres
        cases hres
        have HMM := Lib.hid hM
        clear hM HRES HR1 HR3
        have HVL := Lib.hid (Kd.R_below HVR.out.1 HK17.out)
        have HBW := Lib.hid (show Below w2.heap.size w2 w17 from HVR.out.2.trans (Below.mono HK17.out HVR.out.2.size))
        have hu := Tryd.underlying22
        go_wp2_with ((with_reducible refine gate_builtin (b := .append) (xs := #[.tmp 132, .tmp 136]) rfl ?_); at_builtin; refine Stop.out ?_)
        refine ⟨?_⟩
        refine wpList_step (fun K hK => ?_)
        refine (Kd.R_append_step k49 (Kc := K) (w0 := w2) w2.heap.size (by rfl) (.tmp 132) (.tmp 136) 22 49 (.agg #[(.int .i64 0), (.int .i64 0), (.int .i64 0)]) 24 rfl Tryd.underlying22 info_K rfl (by decide) (by omega) (.slice A3 4 n3') (villV n0 n1 n2 n3) (⟨4, tp, on⟩ : S49) [.int .i64 4, .int .i64 tp, .int .i64 on] (fun _ => True) (fun _ => False) rfl (by first | rfl | go_simp) ?aP (fun _ hk => hk.elim) (fun _ _ => trivial) ?aO HBW.out HBW.out.size (by simp [villV]) ?_)
        case aP => exact k49_mkM _ _ _ (⟨4, tp, on⟩ : S49)
        case aO => exact Kd.R_mono HVL.out (fun _ _ => trivial)
        intro v18 w18 ho hb hg hat
        obtain ⟨Al, nl, rfl, pl, ql⟩ := Kd.R_reads ho
        rw [HMM.out] at pl ql
        have hlA : ∀ k, (Value.slice A3 4 n3').ownBlock = some k → k < w3.heap.size := fun k hk => Kd.R_lt HVR.out.1 k hk
        have HA18 := Lib.hid (Kd.R_grown (Kd.R_bound HA17.out.1) hg (fun k hk e => by
          have h1 := hlA k e.symm
          have h2 := hk.2.1
          have h3 := HA17.out.2
          omega))
        have HC18 := Lib.hid (Kd.R_grown (Kd.R_bound HC17.out.1) hg (fun k hk e => by
          have h1 := hlA k e.symm
          have h2 := hk.2.1
          have h3 := HC17.out.2
          omega))
        have HM18 := Lib.hid (show Kd.C k49 w18 Aa m.length m ∧ Kd.C k49 w18 Ab m.length m from by
          obtain ⟨A', n', e', -, q'⟩ := Kd.R_reads HA18.out
          obtain ⟨A2, n2', e2, -, q2⟩ := Kd.R_reads HC18.out
          cases e'
          cases e2
          exact ⟨q', q2⟩)
        have HML := Lib.hid (show m.length ≤ 2000 by rw [← HMM.out]; simp [villV])
        have hlm : (villV n0 n1 n2 n3 ++ [(⟨4, tp, on⟩ : S49)]).length = m.length := by rw [HMM.out]
        have HB18 := Lib.hid (HB17.out.trans (show Below w.heap.size w17 w18 from ⟨hg.os, hg.tape, hg.output, hg.size, fun k hk => hg.block k (by have := HB17.out.size; omega) (fun e => by
          have h1 := HVR.out.1.1 k e.symm
          have h2 := Kd.R_base HVR.out.1 k e.symm
          have h3 := HB2.out.size
          omega)⟩))
        have HLL := Lib.hid (And.intro pl ql)
        clear ho hb hg hat pl ql hlA
        refine hK _ _ ?_
        try rw [hlm]
        clear hlm
        go_wp2_with fail
        refine (cohousingref20_Same.calls 2100 Aa na m Al nl m true w18 HM18.out.1 HM.out.1 HLL.out.2 HLL.out.1 (same_self m HML.out)).mono ?_
        rintro e w19 ⟨rfl, hd⟩
        have HB19 := Lib.hid (HB18.out.trans (Below.mono hd.below HB18.out.size))
        have HM19 := Lib.hid (And.intro (Kd.C_below HM18.out.1 hd.below) (Kd.C_below HM18.out.2 hd.below))
        clear hd HB18 HM18
        go_wp2_with fail
        refine (cohousingref20_Same.calls 2100 Aa na m Ab nb m true w19 HM19.out.1 HM.out.1 HM19.out.2 HM.out.2.2.1 (same_self m HML.out)).mono ?_
        rintro e w20 ⟨rfl, hd⟩
        have HB20 := Lib.hid (HB19.out.trans (Below.mono hd.below HB19.out.size))
        clear hd HB19 HM19
        go_wp2_with fail
        go_ret
        exact ⟨by first | rfl | simp, HB20.out⟩
end Go.Proofs.YtcnkenknbmmglaaDoor.P
