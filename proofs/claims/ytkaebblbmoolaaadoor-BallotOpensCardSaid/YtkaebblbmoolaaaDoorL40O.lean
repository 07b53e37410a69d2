/- Chapter 40: BallotOpens. -/
import Derived.Test.YtkaebblbmoolaaaDoorPbE
import Derived.Test.YtkaebblbmoolaaaDoorXhead40
import Derived.Test.YtkaebblbmoolaaaDoorPx7
set_option linter.unusedSimpArgs false
set_option linter.unusedVariables false
namespace Go.Proofs.YtkaebblbmoolaaaDoor.P
open Go Go.RowKit Go.Proofs.YtkaebblbmoolaaaDoorW.PrintWords Go.Proofs.YtkaebblbmoolaaaDoorW.PrintLast Go.Proofs.YtkaebblbmoolaaaDoorW.PrintMore

/-- G to the power of a vote. -/
def gV (v : Nat) : Int := ((4 ^ v : Nat) : Int)
theorem encV_made {k r : Int} (v : Nat) (hv : v < 3) : encV k (v : Int) r = againV k 1 (gV v) r ∧ memB (gV v) = true := by
  obtain rfl | rfl | rfl : v = 0 ∨ v = 1 ∨ v = 2 := by omega
  · exact ⟨rfl, memB_1⟩
  · exact ⟨rfl, memB_4⟩
  · exact ⟨rfl, memB_16⟩
theorem content_f (v : Nat) (hv : v < 5) : cohousinglaw40_content.f (v : Int) = some (gV v) := by
  obtain rfl | rfl | rfl | rfl | rfl : v = 0 ∨ v = 1 ∨ v = 2 ∨ v = 3 ∨ v = 4 := by omega
  all_goals decide
theorem opZ_one {b : Nat} (x : Nat) (hb : b < Nt.P) : opZ 1 (b : Int) x = b := by
  have h := opZ_nat 1 b x
  rw [show ((1 : Nat) : Int) = 1 from rfl] at h
  rw [h, Nat.one_pow, Nat.one_mul, Nat.mod_eq_of_lt hb]
theorem opZ_mul {a b c d : Int} (x : Nat) (ha : memB a = true) (hb : memB b = true) (hc : memB c = true) (hd : memB d = true) : opZ (a * c % 2147483579) (b * d % 2147483579) x = opZ a b x * opZ c d x % 2147483579 := by
  obtain ⟨a, rfl, _, _⟩ := memB_el ha
  obtain ⟨b, rfl, _, _⟩ := memB_el hb
  obtain ⟨c, rfl, _, _⟩ := memB_el hc
  obtain ⟨d, rfl, _, _⟩ := memB_el hd
  rw [mul_nat, mul_nat, opZ_nat, opZ_nat, opZ_nat, mul_nat]
  refine congrArg (fun n : Nat => (n : Int)) ?_
  rw [Nat.mul_mod, ← Nat.pow_mod, Nat.mul_pow, Nat.mod_mod, ← Nat.mul_mod, ← Nat.mul_mod]
  refine congrArg (fun n => n % Nt.P) ?_
  simp only [Nat.mul_assoc, Nat.mul_left_comm]
theorem gV_lt {v : Nat} (hv : v < 5) : 4 ^ v < Nt.P := by
  obtain rfl | rfl | rfl | rfl | rfl : v = 0 ∨ v = 1 ∨ v = 2 ∨ v = 3 ∨ v = 4 := by omega
  all_goals decide
theorem gV_mul {v w : Nat} (hv : v < 3) (hw : w < 3) : gV v * gV w % 2147483579 = gV (v + w) := by
  unfold gV
  rw [mul_nat, ← Nat.pow_add, Nat.mod_eq_of_lt (gV_lt (by omega))]
theorem vote_u8 {a : Int} (h : (Lit.int .u8 a).wf = true) : ∃ v : Nat, v < 3 ∧ wrap64 (Int.tmod a 3) = v := by
  have := wf_u8 h
  refine ⟨(a % 3).toNat, by omega, ?_⟩
  rw [tmod_nat _ _ (by omega) (by omega), wrap_id (by omega) (by omega)]
  omega
set_option maxHeartbeats 4000000 in
set_option maxRecDepth 100000 in
theorem opens_walk (a0 a1 a2 a3 a4 : Int) (w : World) (hT : TabOk w) (h0 : (Lit.int .u64 a0).wf = true) (h1 : (Lit.int .u8 a1).wf = true) (h2 : (Lit.int .u8 a2).wf = true) (h3 : (Lit.int .u64 a3).wf = true) (h4 : (Lit.int .u64 a4).wf = true) :
    Calls Tryd.prog 4 #[.int .u64 a0, .int .u8 a1, .int .u8 a2, .int .u64 a3, .int .u64 a4] w fun e w' => e = .returned (.bool true) ∧ Below w.heap.size w w' := by
  obtain ⟨v, hv, ev⟩ := vote_u8 h1
  obtain ⟨u, hu, eu⟩ := vote_u8 h2
  have er := exp_u64 h3
  have es := exp_u64 h4
  obtain ⟨x0, x1⟩ := secN_lt a0
  have hsec := secret_f h0
  generalize secN a0 = x at x0 x1 hsec
  have p := expB_mod a3
  have q := expB_mod a4
  generalize a3 % 1073741789 = p_, a4 % 1073741789 = q_ at p q er es
  have hk := pubN_key x0 x1
  obtain ⟨e1, g1⟩ := encV_made (k := (pubN x : Int)) (r := p_) v hv
  obtain ⟨e2, g2⟩ := encV_made (k := (pubN x : Int)) (r := q_) u hu
  have o1 := okN_of hk p memB_1 g1
  have o2 := okN_of hk q memB_1 g2
  have m1 := nA_mem memB_1 p
  have m2 := nB_mem hk g1 p
  have m3 := nA_mem memB_1 q
  have m4 := nB_mem hk g2 q
  have m5 := nA_mem m1 q
  have m6 := nB_mem hk m2 q
  have z1 : opZ (nA 1 p_) (nB (pubN x : Int) (gV v) p_) x = gV v := (open_anew x1 memB_1 g1 p).trans (opZ_one x (gV_lt (by omega)))
  have z2 : opZ (nA 1 q_) (nB (pubN x : Int) (gV u) q_) x = gV u := (open_anew x1 memB_1 g2 q).trans (opZ_one x (gV_lt (by omega)))
  have z3 := (open_anew x1 m1 m2 q).trans z1
  have z4 := opZ_mul x m1 m2 m3 m4
  rw [z1, z2, gV_mul hv hu] at z4
  have F1 := Lib.hid (show ballot_Encrypt.f (pubN x : Int) (v : Int) p_ = some (nA 1 p_, nB (pubN x : Int) (gV v) p_, 0) by rw [enc_f, e1, againV_ok o1])
  have F2 := Lib.hid (show ballot_Encrypt.f (pubN x : Int) (u : Int) q_ = some (nA 1 q_, nB (pubN x : Int) (gV u) q_, 0) by rw [enc_f, e2, againV_ok o2])
  have F3 := Lib.hid (show ballot_Again.f (pubN x : Int) (nA 1 p_) (nB (pubN x : Int) (gV v) p_) q_ = some (nA (nA 1 p_) q_, nB (pubN x : Int) (nB (pubN x : Int) (gV v) p_) q_, 0) by rw [again_f, againV_ok (okN_of hk q m1 m2)])
  have F4 := Lib.hid (show group_Mul.f (nA 1 p_) (nA 1 q_) = some (nA 1 p_ * nA 1 q_ % 2147483579, 0) by rw [mul_f]; unfold mulV; rw [m1, m3]; rfl)
  have F5 := Lib.hid (show group_Mul.f (nB (pubN x : Int) (gV v) p_) (nB (pubN x : Int) (gV u) q_) = some (nB (pubN x : Int) (gV v) p_ * nB (pubN x : Int) (gV u) q_ % 2147483579, 0) by rw [mul_f]; unfold mulV; rw [m2, m4]; rfl)
  have F6 := Lib.hid ((open_f x x0 x1 m1 m2).trans (congrArg some z1))
  have F7 := Lib.hid ((open_f x x0 x1 m3 m4).trans (congrArg some z2))
  have F8 := Lib.hid ((open_f x x0 x1 m5 m6).trans (congrArg some z3))
  have F9 := Lib.hid ((open_f x x0 x1 (memB_mul m1 m3) (memB_mul m2 m4)).trans (congrArg some z4))
  have C1 := Lib.hid (content_f v (by omega))
  have C2 := Lib.hid (content_f u (by omega))
  have C3 := Lib.hid (content_f (v + u) (by omega))
  have HP := Lib.hid (public_f x0 x1)
  have HS := Lib.hid hsec
  have HV := Lib.hid (And.intro hv hu)
  have HT := Lib.hid hT
  have hsum : wrap64 ((v : Int) + (u : Int)) = ((v + u : Nat) : Int) := by unfold wrap64; omega
  have HSUM := Lib.hid hsum
  generalize nA (nA 1 p_) q_ = a5, nB (pubN x : Int) (nB (pubN x : Int) (gV v) p_) q_ = a6 at *
  generalize nA 1 p_ = b1, nB (pubN x : Int) (gV v) p_ = b2, nA 1 q_ = b3, nB (pubN x : Int) (gV u) q_ = b4 at *
  generalize b1 * b3 % 2147483579 = b5, b2 * b4 % 2147483579 = b6 at *
  generalize (pubN x : Int) = pb at *
  clear e1 e2 o1 o2 m1 m2 m3 m4 m5 m6 z1 z2 z3 z4 hsec g1 g2 hk p q hT x0 x1 hv hu hsum h0 h1 h2 h3 h4
  go_enter Tryd.func4, Tryd.ntmps4
  go_wp2_with fail
  refine (cohousinglaw40_head.calls true w HT.out rfl).mono ?_
  rintro e w1 ⟨rfl, hb1⟩
  have HB := Lib.hid hb1
  clear hb1
  go_wp2_with fail
  refine (cohousingref08_Secret.calls a0 (x : Int) w1 HS.out).mono ?_
  rintro e w2 ⟨rfl, hd⟩
  have HB := Lib.hid (below_step HB.out hd.below)
  clear hd
  go_wp2_with fail
  refine (cohousinglaw40_public.calls (x : Int) pb w2 HP.out).mono ?_
  rintro e w3 ⟨rfl, hb⟩
  have HB := Lib.hid (HB.out.trans (Below.mono hb HB.out.size))
  clear hb
  go_wp2_with fail
  refine (ballot_Encrypt.calls pb (v : Int) p_ b1 b2 0 w3 F1.out).mono ?_
  rintro e w4 ⟨rfl, hb⟩
  have HB := Lib.hid (HB.out.trans (Below.mono hb HB.out.size))
  clear hb
  go_wp2_with fail
  obtain ⟨hx, hs, hb⟩ := Blk.box w4 23 [Value.int IntKind.i64 b1, Value.int IntKind.i64 b2]
  rw [show (List.toArray [Value.int IntKind.i64 b1, Value.int IntKind.i64 b2]) = #[Value.int IntKind.i64 b1, Value.int IntKind.i64 b2] from rfl] at hx hs hb
  generalize w4.alloc (Obj.cells #[Value.int IntKind.i64 b1, Value.int IntKind.i64 b2] 23) = w5 at hx hs hb ⊢
  have HB := Lib.hid (HB.out.trans (Below.mono hb HB.out.size))
  have XA := Lib.hid hx
  clear hx hs hb
  refine (ballot_Encrypt.calls pb (u : Int) q_ b3 b4 0 w5 F2.out).mono ?_
  rintro e w6 ⟨rfl, hb⟩
  have HB := Lib.hid (HB.out.trans (Below.mono hb HB.out.size))
  have XA := Lib.hid (XA.out.below hb XA.out.lt)
  clear hb
  have c0 := fun o => (XA.out.alloc o).cell 0 _ rfl
  have c1 := fun o => (XA.out.alloc o).cell 1 _ rfl
  go_wp2_with fail
  clear c0 c1
  obtain ⟨hx, hs, hb⟩ := Blk.box w6 23 [Value.int IntKind.i64 b3, Value.int IntKind.i64 b4]
  rw [show (List.toArray [Value.int IntKind.i64 b3, Value.int IntKind.i64 b4]) = #[Value.int IntKind.i64 b3, Value.int IntKind.i64 b4] from rfl] at hx hs hb
  generalize w6.alloc (Obj.cells #[Value.int IntKind.i64 b3, Value.int IntKind.i64 b4] 23) = w7 at hx hs hb ⊢
  have HB := Lib.hid (HB.out.trans (Below.mono hb HB.out.size))
  have XA := Lib.hid (XA.out.below hb XA.out.lt)
  have XB := Lib.hid hx
  clear hx hs hb
  refine (ballot_Again.calls pb b1 b2 q_ a5 a6 0 w7 F3.out).mono ?_
  rintro e w8 ⟨rfl, hb⟩
  have HB := Lib.hid (HB.out.trans (Below.mono hb HB.out.size))
  have XA := Lib.hid (XA.out.below hb XA.out.lt)
  have XB := Lib.hid (XB.out.below hb XB.out.lt)
  clear hb
  have c0 := fun o => (XA.out.alloc o).cell 0 _ rfl
  have c1 := fun o => (XA.out.alloc o).cell 1 _ rfl
  have c2 := fun o => (XB.out.alloc o).cell 0 _ rfl
  have c3 := fun o => (XB.out.alloc o).cell 1 _ rfl
  go_wp2_with fail
  clear c0 c1 c2 c3
  obtain ⟨hx, hs, hb⟩ := Blk.box w8 23 [Value.int IntKind.i64 a5, Value.int IntKind.i64 a6]
  rw [show (List.toArray [Value.int IntKind.i64 a5, Value.int IntKind.i64 a6]) = #[Value.int IntKind.i64 a5, Value.int IntKind.i64 a6] from rfl] at hx hs hb
  generalize w8.alloc (Obj.cells #[Value.int IntKind.i64 a5, Value.int IntKind.i64 a6] 23) = w9 at hx hs hb ⊢
  have HB := Lib.hid (HB.out.trans (Below.mono hb HB.out.size))
  have XA := Lib.hid (XA.out.below hb XA.out.lt)
  have XB := Lib.hid (XB.out.below hb XB.out.lt)
  have XC := Lib.hid hx
  clear hx hs hb
  refine (group_Mul.calls b1 b3 b5 0 w9 F4.out).mono ?_
  rintro e w10 ⟨rfl, hb⟩
  have HB := Lib.hid (HB.out.trans (Below.mono hb HB.out.size))
  have XA := Lib.hid (XA.out.below hb XA.out.lt)
  have XB := Lib.hid (XB.out.below hb XB.out.lt)
  have XC := Lib.hid (XC.out.below hb XC.out.lt)
  clear hb
  have c0 := XA.out.cell 0 _ rfl
  have c1 := XA.out.cell 1 _ rfl
  have c2 := XB.out.cell 0 _ rfl
  have c3 := XB.out.cell 1 _ rfl
  have c4 := XC.out.cell 0 _ rfl
  have c5 := XC.out.cell 1 _ rfl
  go_wp2_with fail
  clear c0 c1 c2 c3 c4 c5
  refine (group_Mul.calls b2 b4 b6 0 w10 F5.out).mono ?_
  rintro e w11 ⟨rfl, hb⟩
  have HB := Lib.hid (HB.out.trans (Below.mono hb HB.out.size))
  have XA := Lib.hid (XA.out.below hb XA.out.lt)
  have XB := Lib.hid (XB.out.below hb XB.out.lt)
  have XC := Lib.hid (XC.out.below hb XC.out.lt)
  clear hb
  have c0 := XA.out.cell 0 _ rfl
  have c1 := XA.out.cell 1 _ rfl
  have c2 := XB.out.cell 0 _ rfl
  have c3 := XB.out.cell 1 _ rfl
  have c4 := XC.out.cell 0 _ rfl
  have c5 := XC.out.cell 1 _ rfl
  go_wp2_with fail
  clear c0 c1 c2 c3 c4 c5
  refine (cohousinglaw40_open.calls b1 b2 (x : Int) (gV v) w11 F6.out).mono ?_
  rintro e w12 ⟨rfl, hb⟩
  have HB := Lib.hid (HB.out.trans (Below.mono hb HB.out.size))
  have XA := Lib.hid (XA.out.below hb XA.out.lt)
  have XB := Lib.hid (XB.out.below hb XB.out.lt)
  have XC := Lib.hid (XC.out.below hb XC.out.lt)
  clear hb
  have c0 := XA.out.cell 0 _ rfl
  have c1 := XA.out.cell 1 _ rfl
  have c2 := XB.out.cell 0 _ rfl
  have c3 := XB.out.cell 1 _ rfl
  have c4 := XC.out.cell 0 _ rfl
  have c5 := XC.out.cell 1 _ rfl
  go_wp2_with fail
  clear c0 c1 c2 c3 c4 c5
  refine (cohousinglaw40_content.calls (v : Int) (gV v) w12 C1.out).mono ?_
  rintro e w13 ⟨rfl, hb⟩
  have HB := Lib.hid (HB.out.trans (Below.mono hb HB.out.size))
  have XA := Lib.hid (XA.out.below hb XA.out.lt)
  have XB := Lib.hid (XB.out.below hb XB.out.lt)
  have XC := Lib.hid (XC.out.below hb XC.out.lt)
  clear hb
  have c0 := XA.out.cell 0 _ rfl
  have c1 := XA.out.cell 1 _ rfl
  have c2 := XB.out.cell 0 _ rfl
  have c3 := XB.out.cell 1 _ rfl
  have c4 := XC.out.cell 0 _ rfl
  have c5 := XC.out.cell 1 _ rfl
  go_wp2_with fail
  clear c0 c1 c2 c3 c4 c5
  refine (cohousinglaw40_open.calls b3 b4 (x : Int) (gV u) w13 F7.out).mono ?_
  rintro e w14 ⟨rfl, hb⟩
  have HB := Lib.hid (HB.out.trans (Below.mono hb HB.out.size))
  have XA := Lib.hid (XA.out.below hb XA.out.lt)
  have XB := Lib.hid (XB.out.below hb XB.out.lt)
  have XC := Lib.hid (XC.out.below hb XC.out.lt)
  clear hb
  have c0 := XA.out.cell 0 _ rfl
  have c1 := XA.out.cell 1 _ rfl
  have c2 := XB.out.cell 0 _ rfl
  have c3 := XB.out.cell 1 _ rfl
  have c4 := XC.out.cell 0 _ rfl
  have c5 := XC.out.cell 1 _ rfl
  go_wp2_with fail
  clear c0 c1 c2 c3 c4 c5
  refine (cohousinglaw40_content.calls (u : Int) (gV u) w14 C2.out).mono ?_
  rintro e w15 ⟨rfl, hb⟩
  have HB := Lib.hid (HB.out.trans (Below.mono hb HB.out.size))
  have XA := Lib.hid (XA.out.below hb XA.out.lt)
  have XB := Lib.hid (XB.out.below hb XB.out.lt)
  have XC := Lib.hid (XC.out.below hb XC.out.lt)
  clear hb
  have c0 := XA.out.cell 0 _ rfl
  have c1 := XA.out.cell 1 _ rfl
  have c2 := XB.out.cell 0 _ rfl
  have c3 := XB.out.cell 1 _ rfl
  have c4 := XC.out.cell 0 _ rfl
  have c5 := XC.out.cell 1 _ rfl
  go_wp2_with fail
  clear c0 c1 c2 c3 c4 c5
  refine (cohousinglaw40_open.calls a5 a6 (x : Int) (gV v) w15 F8.out).mono ?_
  rintro e w16 ⟨rfl, hb⟩
  have HB := Lib.hid (HB.out.trans (Below.mono hb HB.out.size))
  have XA := Lib.hid (XA.out.below hb XA.out.lt)
  have XB := Lib.hid (XB.out.below hb XB.out.lt)
  have XC := Lib.hid (XC.out.below hb XC.out.lt)
  clear hb
  have c0 := XA.out.cell 0 _ rfl
  have c1 := XA.out.cell 1 _ rfl
  have c2 := XB.out.cell 0 _ rfl
  have c3 := XB.out.cell 1 _ rfl
  have c4 := XC.out.cell 0 _ rfl
  have c5 := XC.out.cell 1 _ rfl
  go_wp2_with fail
  clear c0 c1 c2 c3 c4 c5
  refine (cohousinglaw40_content.calls (v : Int) (gV v) w16 C1.out).mono ?_
  rintro e w17 ⟨rfl, hb⟩
  have HB := Lib.hid (HB.out.trans (Below.mono hb HB.out.size))
  have XA := Lib.hid (XA.out.below hb XA.out.lt)
  have XB := Lib.hid (XB.out.below hb XB.out.lt)
  have XC := Lib.hid (XC.out.below hb XC.out.lt)
  clear hb
  have c0 := XA.out.cell 0 _ rfl
  have c1 := XA.out.cell 1 _ rfl
  have c2 := XB.out.cell 0 _ rfl
  have c3 := XB.out.cell 1 _ rfl
  have c4 := XC.out.cell 0 _ rfl
  have c5 := XC.out.cell 1 _ rfl
  go_wp2_with fail
  clear c0 c1 c2 c3 c4 c5
  refine (cohousinglaw40_open.calls b5 b6 (x : Int) (gV (v + u)) w17 F9.out).mono ?_
  rintro e w18 ⟨rfl, hb⟩
  have HB := Lib.hid (HB.out.trans (Below.mono hb HB.out.size))
  have XA := Lib.hid (XA.out.below hb XA.out.lt)
  have XB := Lib.hid (XB.out.below hb XB.out.lt)
  have XC := Lib.hid (XC.out.below hb XC.out.lt)
  clear hb
  have c0 := XA.out.cell 0 _ rfl
  have c1 := XA.out.cell 1 _ rfl
  have c2 := XB.out.cell 0 _ rfl
  have c3 := XB.out.cell 1 _ rfl
  have c4 := XC.out.cell 0 _ rfl
  have c5 := XC.out.cell 1 _ rfl
  go_wp2_with fail
  clear c0 c1 c2 c3 c4 c5
  rw [HSUM.out]
  refine (cohousinglaw40_content.calls ((v + u : Nat) : Int) (gV (v + u)) w18 C3.out).mono ?_
  rintro e w19 ⟨rfl, hb⟩
  have HB := Lib.hid (HB.out.trans (Below.mono hb HB.out.size))
  have XA := Lib.hid (XA.out.below hb XA.out.lt)
  have XB := Lib.hid (XB.out.below hb XB.out.lt)
  have XC := Lib.hid (XC.out.below hb XC.out.lt)
  clear hb
  have c0 := XA.out.cell 0 _ rfl
  have c1 := XA.out.cell 1 _ rfl
  have c2 := XB.out.cell 0 _ rfl
  have c3 := XB.out.cell 1 _ rfl
  have c4 := XC.out.cell 0 _ rfl
  have c5 := XC.out.cell 1 _ rfl
  go_wp2_with fail
  clear c0 c1 c2 c3 c4 c5
  go_ret
  exact ⟨by simp, HB.out⟩
end Go.Proofs.YtkaebblbmoolaaaDoor.P
