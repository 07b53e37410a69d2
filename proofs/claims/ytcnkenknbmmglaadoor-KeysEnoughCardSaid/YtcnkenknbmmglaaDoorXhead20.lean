/- The head of chapter 20's laws, walked. -/
import Derived.Test.YtcnkenknbmmglaaDoorPh20
import Derived.Test.YtcnkenknbmmglaaDoorXrenew
import Derived.Test.YtcnkenknbmmglaaDoorPx17
set_option linter.unusedSimpArgs false
set_option linter.unusedVariables false
namespace Go.Proofs.YtcnkenknbmmglaaDoor.P
open Go Go.RowKit Go.Proofs.YtcnkenknbmmglaaDoorW.PrintWords Go.Proofs.YtcnkenknbmmglaaDoorW.PrintLast Go.Proofs.YtcnkenknbmmglaaDoorW.PrintMore Go.Proofs.YtcnkenknbmmglaaDoor.Ord

theorem pub_f (n : Nat) (h : n < 1073741789) (k : Nat) (hk : 40 ≤ k) : cohousinglaw20_pub.f k (n : Int) = some (pub n : Int) := by
  unfold cohousinglaw20_pub.f
  rw [refPub_f n h k hk, obs]
theorem lit_K3 (W : World) (p q r : Int) : Kd.C k49 (W.alloc (Obj.cells #[Value.int .i64 1, .int .i64 p, .int .i64 0, .int .i64 2, .int .i64 q, .int .i64 0, .int .i64 3, .int .i64 r, .int .i64 0] 49)) (some ⟨W.heap.size, 0, none⟩) 3 [(⟨1, p, 0⟩ : S49), ⟨2, q, 0⟩, ⟨3, r, 0⟩] :=
  C_parts (d := k49) W [(⟨1, p, 0⟩ : S49), ⟨2, q, 0⟩, ⟨3, r, 0⟩] [[.int .i64 1, .int .i64 p, .int .i64 0], [.int .i64 2, .int .i64 q, .int .i64 0], [.int .i64 3, .int .i64 r, .int .i64 0]] 49 (by simp) ⟨k49_mk _ _, k49_mk _ _, k49_mk _ _, trivial⟩
theorem lit_V2 (W : World) (a b : S28) : Kd.C k28 (W.alloc (Obj.cells #[.int .i64 a.f0, .int .i64 a.f1, .int .i64 a.f2, .int .i64 a.f3, .int .i64 a.f4.f0, .int .i64 a.f4.f1, .int .i64 b.f0, .int .i64 b.f1, .int .i64 b.f2, .int .i64 b.f3, .int .i64 b.f4.f0, .int .i64 b.f4.f1] 28)) (some ⟨W.heap.size, 0, none⟩) 2 [a, b] :=
  C_parts (d := k28) W [a, b] [vC a, vC b] 28 (by simp) ⟨k28_mk _ _, k28_mk _ _, trivial⟩
theorem lit_I2 (W : World) (a b : Int) : Kd.C (Kd.int .i64) (W.alloc (Obj.cells #[.int .i64 a, .int .i64 b] 3)) (some ⟨W.heap.size, 0, none⟩) 2 [a, b] :=
  C_parts (d := Kd.int .i64) W [a, b] [[.int .i64 a], [.int .i64 b]] 3 (by simp) ⟨rfl, rfl, trivial⟩
theorem lit_args (W : World) (a b : S28) : ∃ W', (W.alloc (Obj.cells #[.int .i64 1, .int .i64 2] 3)).alloc (Obj.cells #[.int .i64 a.f0, .int .i64 a.f1, .int .i64 a.f2, .int .i64 a.f3, .int .i64 a.f4.f0, .int .i64 a.f4.f1, .int .i64 b.f0, .int .i64 b.f1, .int .i64 b.f2, .int .i64 b.f3, .int .i64 b.f4.f0, .int .i64 b.f4.f1] 28) = W' ∧
    Kd.C (Kd.int .i64) W' (some ⟨W.heap.size, 0, none⟩) 2 [1, 2] ∧ Kd.C k28 W' (some ⟨W.heap.size + 1, 0, none⟩) 2 [a, b] ∧ Below W.heap.size W W' := by
  have h1 := lit_I2 W 1 2
  have e : (W.alloc (Obj.cells #[.int .i64 1, .int .i64 2] 3)).heap.size = W.heap.size + 1 := World.size_alloc _ _
  have b1 := (Below.refl W.heap.size W).alloc (Nat.le_refl _) (Obj.cells #[.int .i64 1, .int .i64 2] 3)
  generalize W.alloc (Obj.cells #[.int .i64 1, .int .i64 2] 3) = W1 at *
  have h2 := lit_V2 W1 a b
  have b2 := (Below.refl W1.heap.size W1).alloc (Nat.le_refl _) (Obj.cells #[.int .i64 a.f0, .int .i64 a.f1, .int .i64 a.f2, .int .i64 a.f3, .int .i64 a.f4.f0, .int .i64 a.f4.f1, .int .i64 b.f0, .int .i64 b.f1, .int .i64 b.f2, .int .i64 b.f3, .int .i64 b.f4.f0, .int .i64 b.f4.f1] 28)
  rw [e] at h2
  exact ⟨_, rfl, Kd.C_below h1 b2, h2, b1.trans (Below.mono b2 (by omega))⟩
/-- What stands still in the head. -/
structure Hh (w W : World) (N q2 q4 : Nat) (a0 a1 b0 b1 : Int) : Prop where
  b : Below w.heap.size w W
  l : Kd.C k49 W (some ⟨N, 0, none⟩) 3 hK
  a : Blk W q2 28 [.int .i64 3, .int .i64 65536, .int .i64 9, .int .i64 1, .int .i64 a0, .int .i64 a1]
  v : Blk W q4 28 [.int .i64 3, .int .i64 65536, .int .i64 9, .int .i64 2, .int .i64 b0, .int .i64 b1]
theorem Hh.below {w W W' : World} {N q2 q4 : Nat} {a0 a1 b0 b1 : Int} (h : Hh w W N q2 q4 a0 a1 b0 b1) (hb : Below W.heap.size W W') : Hh w W' N q2 q4 a0 a1 b0 b1 := ⟨h.b.trans (Below.mono hb h.b.size), Kd.C_below h.l hb, h.a.below hb h.a.lt, h.v.below hb h.v.lt⟩
def cohousinglaw20_head.f : Option Bool := some true
set_option maxHeartbeats 8000000 in
set_option maxRecDepth 100000 in
theorem cohousinglaw20_head.calls (r : Bool) (w : World) (hT : TabOk w) (h : cohousinglaw20_head.f = some r) :
    Calls Tryd.prog 8 #[] w fun e w' => e = .returned (.bool r) ∧ Below w.heap.size w w' := by
  obtain rfl := Option.some.inj h
  have HT := Lib.hid hT
  clear h hT
  go_enter Tryd.func8, Tryd.ntmps8
  go_wp2_with fail
  refine (cohousinglaw20_pub.calls 40 5 1024 w (by have h := pub_f 5 (by omega) 40 (by omega); rw [pub_5] at h; exact h)).mono ?_
  rintro e w1 ⟨rfl, hd⟩
  have hb1 := Lib.hid hd.below
  clear hd
  go_wp2_with fail
  refine (cohousinglaw20_pub.calls 40 6 4096 w1 (by have h := pub_f 6 (by omega) 40 (by omega); rw [pub_6] at h; exact h)).mono ?_
  rintro e w2 ⟨rfl, hd⟩
  have hb2 := Lib.hid (hb1.out.trans (Below.mono hd.below hb1.out.size))
  clear hd hb1
  go_wp2_with fail
  have hl3 := Lib.hid (lit_K3 w2 1024 4096 16384)
  have hb3 := Lib.hid (hb2.out.alloc hb2.out.size (Obj.cells #[Value.int .i64 1, .int .i64 1024, .int .i64 0, .int .i64 2, .int .i64 4096, .int .i64 0, .int .i64 3, .int .i64 16384, .int .i64 0] 49))
  generalize w2.alloc (Obj.cells #[Value.int .i64 1, .int .i64 1024, .int .i64 0, .int .i64 2, .int .i64 4096, .int .i64 0, .int .i64 3, .int .i64 16384, .int .i64 0] 49) = w3 at *
  generalize w2.heap.size = N at *
  clear hb2
  obtain ⟨a0, ha0⟩ : ∃ a, vA.f4.f0 = a := ⟨_, rfl⟩
  obtain ⟨a1, ha1⟩ : ∃ a, vA.f4.f1 = a := ⟨_, rfl⟩
  obtain ⟨b0, hb0⟩ : ∃ a, vB.f4.f0 = a := ⟨_, rfl⟩
  obtain ⟨b1, hb1⟩ : ∃ a, vB.f4.f1 = a := ⟨_, rfl⟩
  have HA := Lib.hid (show (⟨3, 65536, 9, 1, ⟨a0, a1⟩⟩ : S28) = vA by rw [← ha0, ← ha1]; rfl)
  have HB := Lib.hid (show (⟨3, 65536, 9, 2, ⟨b0, b1⟩⟩ : S28) = vB by rw [← hb0, ← hb1]; rfl)
  have HVB := Lib.hid (show vouchV 3 65536 9 2 6 12 = (3, 65536, 9, 2, b0, b1, 0) by rw [hVouchB, hb0, hb1])
  refine (keys_Vouch.calls 12 3 65536 9 1 5 11 3 65536 9 1 a0 a1 0 w3 (TabOk.below HT.out hb3.out) (by rw [vouch_f _ _ _ _ _ _ _ (by omega), hVouchA, ha0, ha1])).mono ?_
  rintro e w4 ⟨rfl, hd⟩
  have hb4 := Lib.hid (hb3.out.trans (Below.mono hd hb3.out.size))
  have hl4 := Lib.hid (Kd.C_below hl3.out hd)
  clear hd hb3 hl3 ha0 ha1 hb0 hb1
  go_wp2_with fail
  obtain ⟨hx5, hs5, hw5⟩ := Blk.box w4 28 [.int .i64 3, .int .i64 65536, .int .i64 9, .int .i64 1, .int .i64 a0, .int .i64 a1]
  rw [show (List.toArray [Value.int .i64 3, .int .i64 65536, .int .i64 9, .int .i64 1, .int .i64 a0, .int .i64 a1]) = #[.int .i64 3, .int .i64 65536, .int .i64 9, .int .i64 1, .int .i64 a0, .int .i64 a1] from rfl] at hx5 hs5 hw5
  generalize w4.alloc (Obj.cells #[Value.int .i64 3, .int .i64 65536, .int .i64 9, .int .i64 1, .int .i64 a0, .int .i64 a1] 28) = w5 at *
  have hb5 := Lib.hid (hb4.out.trans (Below.mono hw5 hb4.out.size))
  have hl5 := Lib.hid (Kd.C_below hl4.out hw5)
  have HX5 := Lib.hid hx5
  clear hx5 hs5 hw5 hb4 hl4
  generalize w4.heap.size = q2 at *
  refine (keys_Vouch.calls 12 3 65536 9 2 6 12 3 65536 9 2 b0 b1 0 w5 (TabOk.below HT.out hb5.out) (by rw [vouch_f _ _ _ _ _ _ _ (by omega), HVB.out])).mono ?_
  rintro e w6 ⟨rfl, hd⟩
  have hb6 := Lib.hid (hb5.out.trans (Below.mono hd hb5.out.size))
  have hl6 := Lib.hid (Kd.C_below hl5.out hd)
  have HX6 := Lib.hid (HX5.out.below hd HX5.out.lt)
  clear hd hb5 hl5 HX5 HVB
  have c0 : ∀ o o', ((w6.alloc o).alloc o').cell? ⟨q2, 0, none⟩ = _ := fun o o' => ((HX6.out.alloc o).alloc o').cell 0 _ rfl
  have c1 : ∀ o o', ((w6.alloc o).alloc o').cell? ⟨q2, 1, none⟩ = _ := fun o o' => ((HX6.out.alloc o).alloc o').cell 1 _ rfl
  have c2 : ∀ o o', ((w6.alloc o).alloc o').cell? ⟨q2, 2, none⟩ = _ := fun o o' => ((HX6.out.alloc o).alloc o').cell 2 _ rfl
  have c3 : ∀ o o', ((w6.alloc o).alloc o').cell? ⟨q2, 3, none⟩ = _ := fun o o' => ((HX6.out.alloc o).alloc o').cell 3 _ rfl
  have c4 : ∀ o o', ((w6.alloc o).alloc o').cell? ⟨q2, 4, none⟩ = _ := fun o o' => ((HX6.out.alloc o).alloc o').cell 4 _ rfl
  have c5 : ∀ o o', ((w6.alloc o).alloc o').cell? ⟨q2, 5, none⟩ = _ := fun o o' => ((HX6.out.alloc o).alloc o').cell 5 _ rfl
  go_wp2_with fail
  clear c0 c1 c2 c3 c4 c5
  obtain ⟨hx7, hs7, hw7⟩ := Blk.box w6 28 [.int .i64 3, .int .i64 65536, .int .i64 9, .int .i64 2, .int .i64 b0, .int .i64 b1]
  rw [show (List.toArray [Value.int .i64 3, .int .i64 65536, .int .i64 9, .int .i64 2, .int .i64 b0, .int .i64 b1]) = #[.int .i64 3, .int .i64 65536, .int .i64 9, .int .i64 2, .int .i64 b0, .int .i64 b1] from rfl] at hx7 hs7 hw7
  generalize w6.alloc (Obj.cells #[Value.int .i64 3, .int .i64 65536, .int .i64 9, .int .i64 2, .int .i64 b0, .int .i64 b1] 28) = w7 at *
  have HH7 := Lib.hid (show Hh w w7 N q2 w6.heap.size a0 a1 b0 b1 from ⟨hb6.out.trans (Below.mono hw7 hb6.out.size), Kd.C_below hl6.out hw7, HX6.out.below hw7 HX6.out.lt, hx7⟩)
  rw [← hs7]
  generalize w6.heap.size = q4 at *
  clear hx7 hs7 hw7 hb6 hl6 HX6
  obtain ⟨w8, hw8, hi8, hv8, hb8⟩ := lit_args w7 (⟨3, 65536, 9, 1, ⟨a0, a1⟩⟩ : S28) (⟨3, 65536, 9, 2, ⟨b0, b1⟩⟩ : S28)
  simp only at hw8
  rw [hw8]
  have HH8 := Lib.hid (HH7.out.below hb8)
  refine (keys_Renew.calls _ 3 hK _ 2 [1, 2] 2 _ 2 [(⟨3, 65536, 9, 1, ⟨a0, a1⟩⟩ : S28), ⟨3, 65536, 9, 2, ⟨b0, b1⟩⟩] hM 0 w8 HH8.out.l (Nat.le_refl _) hi8 (Nat.le_refl _) hv8 (Nat.le_refl _) (TabOk.below HT.out HH8.out.b) (by rw [HA.out, HB.out]; exact congrArg some hRenew1)).mono ?_
  rintro e w9 ⟨v, rfl, hR, hd⟩
  obtain ⟨M, n, rfl, p9, q9⟩ := Kd.R_reads hR
  have HH9 := Lib.hid (HH8.out.below hd)
  have HM9 := Lib.hid (And.intro p9 q9)
  clear hw8 hi8 hv8 hb8 HH7 HH8 hd hR p9 q9
  simp only [show hM.length = 4 from rfl] at HM9 ⊢
  have c0 : ∀ o, (w9.alloc o).cell? ⟨q2, 0, none⟩ = _ := fun o => (HH9.out.a.alloc o).cell 0 _ rfl
  have c1 : ∀ o, (w9.alloc o).cell? ⟨q2, 1, none⟩ = _ := fun o => (HH9.out.a.alloc o).cell 1 _ rfl
  have c2 : ∀ o, (w9.alloc o).cell? ⟨q2, 2, none⟩ = _ := fun o => (HH9.out.a.alloc o).cell 2 _ rfl
  have c3 : ∀ o, (w9.alloc o).cell? ⟨q2, 3, none⟩ = _ := fun o => (HH9.out.a.alloc o).cell 3 _ rfl
  have c4 : ∀ o, (w9.alloc o).cell? ⟨q2, 4, none⟩ = _ := fun o => (HH9.out.a.alloc o).cell 4 _ rfl
  have c5 : ∀ o, (w9.alloc o).cell? ⟨q2, 5, none⟩ = _ := fun o => (HH9.out.a.alloc o).cell 5 _ rfl
  go_wp2_with fail
  clear c0 c1 c2 c3 c4 c5
  obtain ⟨w10, hw10, hi10, hv10, hb10⟩ := lit_args w9 (⟨3, 65536, 9, 1, ⟨a0, a1⟩⟩ : S28) (⟨3, 65536, 9, 1, ⟨a0, a1⟩⟩ : S28)
  simp only at hw10
  rw [hw10]
  have HH10 := Lib.hid (HH9.out.below hb10)
  have HM10 := Lib.hid (And.intro HM9.out.1 (Kd.C_below HM9.out.2 hb10))
  refine (keys_Renew.calls _ 3 hK _ 2 [1, 2] 2 _ 2 [(⟨3, 65536, 9, 1, ⟨a0, a1⟩⟩ : S28), ⟨3, 65536, 9, 1, ⟨a0, a1⟩⟩] [] 33 w10 HH10.out.l (Nat.le_refl _) hi10 (Nat.le_refl _) hv10 (Nat.le_refl _) (TabOk.below HT.out HH10.out.b) (by rw [HA.out]; exact congrArg some hRenew2)).mono ?_
  rintro e w11 ⟨v, rfl, hR, hd⟩
  have HH11 := Lib.hid (HH10.out.below hd)
  have HM11 := Lib.hid (And.intro HM10.out.1 (Kd.C_below HM10.out.2 hd))
  clear hw10 hi10 hv10 hb10 HH9 HH10 HM9 HM10 hd hR
  go_wp2_with fail
  refine (keys_Of.calls 1006 M n hM 3 8 16384 true 0 w11 HM11.out.2 HM11.out.1 (by rw [of_f _ _ _ _ (by omega), hOf1])).mono ?_
  rintro e w12 ⟨rfl, hd⟩
  have HH12 := Lib.hid (HH11.out.below hd)
  have HM12 := Lib.hid (And.intro HM11.out.1 (Kd.C_below HM11.out.2 hd))
  clear hd HH11 HM11
  go_wp2_with fail
  refine (keys_Of.calls 1006 M n hM 3 9 65536 true 0 w12 HM12.out.2 HM12.out.1 (by rw [of_f _ _ _ _ (by omega), hOf2])).mono ?_
  rintro e w13 ⟨rfl, hd⟩
  have HH13 := Lib.hid (HH12.out.below hd)
  have HM13 := Lib.hid (And.intro HM12.out.1 (Kd.C_below HM12.out.2 hd))
  clear hd HH12 HM12
  go_wp2_with fail
  refine (keys_Of.calls 1006 M n hM 4 9 0 false 0 w13 HM13.out.2 HM13.out.1 (by rw [of_f _ _ _ _ (by omega), hOf3])).mono ?_
  rintro e w14 ⟨rfl, hd⟩
  have HH14 := Lib.hid (HH13.out.below hd)
  have HM14 := Lib.hid (And.intro HM13.out.1 (Kd.C_below HM13.out.2 hd))
  clear hd HH13 HM13
  go_wp2_with fail
  refine (keys_Valid.calls 1006 M n hM true w14 HM14.out.2 HM14.out.1 (by rw [valid_f _ _ (by omega), hM_valid])).mono ?_
  rintro e w15 ⟨rfl, hd⟩
  have HH15 := Lib.hid (HH14.out.below hd)
  clear hd HH14 HM14
  go_wp2_with fail
  go_ret
  exact ⟨by simp, HH15.out.b⟩
end Go.Proofs.YtcnkenknbmmglaaDoor.P
