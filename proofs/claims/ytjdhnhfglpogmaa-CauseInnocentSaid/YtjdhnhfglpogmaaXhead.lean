/- The head of the laws of layer 36: the examples of the chapter. -/
import Derived.Test.YtjdhnhfglpogmaaXC
import Derived.Test.YtjdhnhfglpogmaaGen
import Derived.Test.YtjdhnhfglpogmaaPx1
import Derived.Test.YtjdhnhfglpogmaaPx6
import Derived.Test.YtjdhnhfglpogmaaPx7
import Derived.Test.YtjdhnhfglpogmaaPx4
set_option linter.unusedSimpArgs false
set_option linter.unusedVariables false
namespace Go.Proofs.Ytjdhnhfglpogmaa.P
open Go.RowKit Go.Proofs.YtjdhnhfglpogmaaW.PrintWords Go.Proofs.YtjdhnhfglpogmaaW.PrintLast Go.Proofs.YtjdhnhfglpogmaaW.PrintMore

def houseL : List S44 := [⟨5, [], []⟩, ⟨7, [], []⟩, ⟨0, [0, 1], [false, true, true, true]⟩]
theorem house_calls (w : World) : Calls Try.prog 30 #[] w fun e w' => ∃ A c, e = .returned (.slice A 3 c) ∧ Kd.C k44 w' A houseL.length houseL ∧ 3 ≤ c ∧ Below w.heap.size w w' := by
  refine (cohousinglaw36_house.calls houseL w rfl).mono ?_
  rintro e w' ⟨v, rfl, hN, hb⟩
  obtain ⟨A, c, rfl, hl, hC⟩ := Kd.N_reads hN
  exact ⟨A, c, rfl, hC, hl, hb⟩
theorem st1 : statesV houseL [⟨2, true, 3⟩] 3 = ([[false, true], [true, false], [true, true]], 0) := by decide +kernel
theorem bl1 : blameV houseL [⟨2, true, 3⟩] 3 2 = ([], [5, 7], 0) := by decide +kernel
theorem bl2 : blameV houseL [⟨2, true, 3⟩, ⟨1, false, 4⟩] 4 2 = ([5], [5], 0) := by decide +kernel
theorem bl3 : blameV houseL [⟨2, true, 3⟩, ⟨1, false, 4⟩] 3 2 = ([], [5, 7], 0) := by decide +kernel
theorem bl4 : blameV houseL [⟨2, true, 3⟩, ⟨1, false, 4⟩, ⟨0, false, 4⟩] 4 2 = ([], [], 4) := by decide +kernel
theorem rn1 : runV houseL [true, false] = ([true, false, true], 0) := by decide +kernel
theorem vl1 : cause_Valid.f 20 houseL = some true := by decide +kernel
theorem vl2 : cause_Valid.f 20 [⟨0, [0], [true, false]⟩] = some false := by decide +kernel
theorem sm1 : cohousingref36_SameStates.f 20 [[false, true], [true, false], [true, true]] [[false, true], [true, false], [true, true]] = some true := by decide +kernel
theorem sm2 : cohousingref36_SameInts.f 20 [5, 7] [5, 7] = some true := by decide +kernel
theorem sm3 : cohousingref36_SameInts.f 20 [5] [5] = some true := by decide +kernel
theorem sm4 : cohousingref36_SameBools.f 20 [true, false, true] [true, false, true] = some true := by decide +kernel
theorem states_house (seen : List S48) (day : Int) (r1 : List (List Bool)) (r2 : Int) (A S : Option Addr) (c d : Nat) (W : World) (h : statesV houseL seen day = (r1, r2)) (hH : Kd.C k44 W A houseL.length houseL) (hc : 3 ≤ c) (hS : Kd.C k48 W S seen.length seen) :
    Calls Try.prog 18 #[.slice A 3 c, .slice S seen.length d, .int .i64 day] W fun e w' => ∃ A' c', e = .returned (.tuple #[.slice A' r1.length c', .int .i64 r2]) ∧ Kd.C (Kd.slice 4 Kd.bool) w' A' r1.length r1 ∧ r1.length ≤ c' ∧ Below W.heap.size W w' := by
  have hs := states_calls A c houseL S d seen day W hH hc hS
  rw [h] at hs
  refine hs.mono ?_
  rintro e w' ⟨v, rfl, hR, hb⟩
  obtain ⟨A', c', rfl, hl, hC⟩ := Kd.S_reads hR
  exact ⟨A', c', rfl, hC, hl, hb⟩
theorem blame_house (seen : List S48) (day : Int) (r1 r2 : List Int) (r3 : Int) (A S : Option Addr) (c d : Nat) (W : World) (h : blameV houseL seen day 2 = (r1, r2, r3)) (hH : Kd.C k44 W A houseL.length houseL) (hc : 3 ≤ c) (hS : Kd.C k48 W S seen.length seen) :
    Calls Try.prog 21 #[.slice A 3 c, .slice S seen.length d, .int .i64 day, .int .i64 2] W fun e w' => ∃ A1 c1 A2 c2, e = .returned (.tuple #[.slice A1 r1.length c1, .slice A2 r2.length c2, .int .i64 r3]) ∧ Kd.C (Kd.int .i64) w' A1 r1.length r1 ∧ r1.length ≤ c1 ∧ Kd.C (Kd.int .i64) w' A2 r2.length r2 ∧ r2.length ≤ c2 ∧ Below W.heap.size W w' := by
  have hs := blame_calls A c houseL S d seen day 2 W hH hc hS
  rw [h] at hs
  refine hs.mono ?_
  rintro e w' ⟨v, u, rfl, hR, hR2, hb⟩
  obtain ⟨A', c', rfl, hl, hC⟩ := Kd.R_reads hR
  obtain ⟨A2, c2, rfl, hl2, hC2⟩ := Kd.R_reads hR2
  exact ⟨A', c', A2, c2, rfl, hC, hl, hC2, hl2, hb⟩
theorem run_house (fr : List Bool) (r1 : List Bool) (r2 : Int) (A S : Option Addr) (c d : Nat) (W : World) (h : runV houseL fr = (r1, r2)) (hH : Kd.C k44 W A houseL.length houseL) (hc : 3 ≤ c) (hS : Kd.C Kd.bool W S fr.length fr) :
    Calls Try.prog 13 #[.slice A 3 c, .slice S fr.length d] W fun e w' => ∃ A' c', e = .returned (.tuple #[.slice A' r1.length c', .int .i64 r2]) ∧ Kd.C Kd.bool w' A' r1.length r1 ∧ r1.length ≤ c' ∧ Below W.heap.size W w' := by
  have hs := run_calls A c houseL S d fr W hH hc hS
  rw [h] at hs
  refine hs.mono ?_
  rintro e w' ⟨v, rfl, hR, hb⟩
  obtain ⟨A', c', rfl, hl, hC⟩ := Kd.R_reads hR
  exact ⟨A', c', rfl, hC, hl, hb⟩
theorem drawn_below {w w' : World} (h : Drawn0 w w') : Below w.heap.size w w' := h.below
theorem C48 (W : World) (xs : List S48) (hl : xs.length ≤ 100) : Kd.C k48 (W.alloc (.cells (xs.map fun x => [Value.int .i64 x.f0, .bool x.f1, .int .i64 x.f2]).flatten.toArray 48)) (some ⟨W.heap.size, 0, none⟩) xs.length xs :=
  C_parts W xs _ 48 (by omega) (by
    clear hl
    induction xs with
    | nil => trivial
    | cons x xs ih => exact ⟨k48_mk W x, ih⟩)
theorem Cint (W : World) (xs : List Int) (hl : xs.length ≤ 100) : Kd.C (Kd.int .i64) (W.alloc (.cells (xs.map fun x => [Value.int .i64 x]).flatten.toArray 3)) (some ⟨W.heap.size, 0, none⟩) xs.length xs :=
  C_parts W xs _ 3 (by omega) (by
    clear hl
    induction xs with
    | nil => trivial
    | cons x xs ih => exact ⟨rfl, ih⟩)
theorem Cbool (W : World) (xs : List Bool) (hl : xs.length ≤ 100) : Kd.C Kd.bool (W.alloc (.cells (xs.map fun x => [Value.bool x]).flatten.toArray 4)) (some ⟨W.heap.size, 0, none⟩) xs.length xs :=
  C_parts W xs _ 4 (by omega) (by
    clear hl
    induction xs with
    | nil => trivial
    | cons x xs ih => exact ⟨rfl, ih⟩)
theorem B48 {W : World} {g : Nat} (xs : List S48) (hb : W.heap[g]? = some (.cells (xs.map fun x => [Value.int .i64 x.f0, .bool x.f1, .int .i64 x.f2]).flatten.toArray 48 (0, 0))) (hl : xs.length ≤ 100) : Kd.C k48 W (some ⟨g, 0, none⟩) xs.length xs :=
  C_blk xs _ hb (by omega) (by
    clear hl hb
    induction xs with
    | nil => trivial
    | cons x xs ih => exact ⟨k48_mk W x, ih⟩)
theorem Bint {W : World} {g : Nat} (xs : List Int) (hb : W.heap[g]? = some (.cells (xs.map fun x => [Value.int .i64 x]).flatten.toArray 3 (0, 0))) (hl : xs.length ≤ 100) : Kd.C (Kd.int .i64) W (some ⟨g, 0, none⟩) xs.length xs :=
  C_blk xs _ hb (by omega) (by
    clear hl hb
    induction xs with
    | nil => trivial
    | cons x xs ih => exact ⟨rfl, ih⟩)
theorem Bbool {W : World} {g : Nat} (xs : List Bool) (hb : W.heap[g]? = some (.cells (xs.map fun x => [Value.bool x]).flatten.toArray 4 (0, 0))) (hl : xs.length ≤ 100) : Kd.C Kd.bool W (some ⟨g, 0, none⟩) xs.length xs :=
  C_blk xs _ hb (by omega) (by
    clear hl hb
    induction xs with
    | nil => trivial
    | cons x xs ih => exact ⟨rfl, ih⟩)
theorem below_none {w w' : World} (h : w.grownBy w' none) : Below w.heap.size w w' := (Below.refl _ _).grown h (Nat.le_refl _) (fun k hk => by cases hk)
theorem S48_own {W W' : World} {v : Value} {n : Nat} (xs : List S48) (ho : W'.ownsRow W.heap.size 48 3 v n (xs.map fun x => [Value.int .i64 x.f0, .bool x.f1, .int .i64 x.f2]).flatten) (hn : n = xs.length) : ∃ A c, v = .slice A xs.length c ∧ Kd.C k48 W' A xs.length xs := by
  subst hn
  have hM : Kd.R k48 48 W' W.heap.size (fun _ => True) v xs := by
    refine ⟨fun _ _ => trivial, _, ho, Parts.reps (n := 3) (fun x c hx => (k48).K_len ((k48).K_of_M hx)) ?_⟩
    clear ho
    generalize (fun k => True ∧ some k ≠ v.ownBlock) = ok
    induction xs with
    | nil => trivial
    | cons x xs ih => exact ⟨k48_mkM W' _ _ x, ih⟩
  obtain ⟨A, c, h1, h2, h3⟩ := Kd.R_reads hM
  exact ⟨A, c, h1, h3⟩

theorem Krow {W : World} {A : Option Addr} {c : Nat} {xs : List Bool} (h : Kd.C Kd.bool W A xs.length xs) (hc : xs.length ≤ c) : (Kd.slice 4 Kd.bool).K W xs [.slice A xs.length c] := ⟨A, c, rfl, hc, h⟩
theorem lit_states (W : World) : Kd.C (Kd.slice 4 Kd.bool) ((((W.alloc (.cells #[.bool false, .bool true] 4)).alloc (.cells #[.bool true, .bool false] 4)).alloc (.cells #[.bool true, .bool true] 4)).alloc (.cells #[.slice (some ⟨W.heap.size, 0, none⟩) 2 2, .slice (some ⟨W.heap.size + 1, 0, none⟩) 2 2, .slice (some ⟨W.heap.size + 1 + 1, 0, none⟩) 2 2] 23))
    (some ⟨W.heap.size + 1 + 1 + 1, 0, none⟩) 3 [[false, true], [true, false], [true, true]] := by
  have b1 := heap_alloc_new W (.cells #[.bool false, .bool true] 4)
  have b2 := heap_alloc_new (W.alloc (.cells #[.bool false, .bool true] 4)) (.cells #[.bool true, .bool false] 4)
  have b3 := heap_alloc_new ((W.alloc (.cells #[.bool false, .bool true] 4)).alloc (.cells #[.bool true, .bool false] 4)) (.cells #[.bool true, .bool true] 4)
  have b4 := heap_alloc_new (((W.alloc (.cells #[.bool false, .bool true] 4)).alloc (.cells #[.bool true, .bool false] 4)).alloc (.cells #[.bool true, .bool true] 4)) (.cells #[.slice (some ⟨W.heap.size, 0, none⟩) 2 2, .slice (some ⟨W.heap.size + 1, 0, none⟩) 2 2, .slice (some ⟨W.heap.size + 1 + 1, 0, none⟩) 2 2] 23)
  simp only [World.size_alloc] at b2 b3 b4
  exact C_blk (d := Kd.slice 4 Kd.bool) [[false, true], [true, false], [true, true]] [[.slice (some ⟨W.heap.size, 0, none⟩) 2 2], [.slice (some ⟨W.heap.size + 1, 0, none⟩) 2 2], [.slice (some ⟨W.heap.size + 1 + 1, 0, none⟩) 2 2]] b4 (by decide)
    ⟨Krow (Bbool [false, true] (blk_alloc (blk_alloc (blk_alloc b1 _) _) _) (by decide)) (Nat.le_refl 2), Krow (Bbool [true, false] (blk_alloc (blk_alloc b2 _) _) (by decide)) (Nat.le_refl 2), Krow (Bbool [true, true] (blk_alloc b3 _) (by decide)) (Nat.le_refl 2), trivial⟩
theorem lit_var (W : World) : Kd.C k44 (((W.alloc (.cells #[.int .i64 0] 3)).alloc (.cells #[.bool true, .bool false] 4)).alloc (.cells #[.int .i64 0, .slice (some ⟨W.heap.size, 0, none⟩) 1 1, .slice (some ⟨W.heap.size + 1, 0, none⟩) 2 2] 44))
    (some ⟨W.heap.size + 1 + 1, 0, none⟩) 1 [⟨0, [0], [true, false]⟩] := by
  have b1 := heap_alloc_new W (.cells #[.int .i64 0] 3)
  have b2 := heap_alloc_new (W.alloc (.cells #[.int .i64 0] 3)) (.cells #[.bool true, .bool false] 4)
  have b3 := heap_alloc_new ((W.alloc (.cells #[.int .i64 0] 3)).alloc (.cells #[.bool true, .bool false] 4)) (.cells #[.int .i64 0, .slice (some ⟨W.heap.size, 0, none⟩) 1 1, .slice (some ⟨W.heap.size + 1, 0, none⟩) 2 2] 44)
  simp only [World.size_alloc] at b2 b3
  refine C_blk (d := k44) [⟨0, [0], [true, false]⟩] [[.int .i64 0, .slice (some ⟨W.heap.size, 0, none⟩) 1 1, .slice (some ⟨W.heap.size + 1, 0, none⟩) 2 2]] b3 (by decide) ⟨?_, trivial⟩
  exact k44_mk _ ⟨0, [0], [true, false]⟩ (Nat.le_refl 1) (Bint [0] (blk_alloc (blk_alloc b1 _) _) (by decide)) (Nat.le_refl 2) (Bbool [true, false] (blk_alloc b2 _) (by decide))
theorem same_ints (xs : List Int) (A S : Option Addr) (c d : Nat) (W : World) (h : cohousingref36_SameInts.f 20 xs xs = some true) (h1 : Kd.C (Kd.int .i64) W A xs.length xs) (hc : xs.length ≤ c) (h2 : Kd.C (Kd.int .i64) W S xs.length xs) (hd : xs.length ≤ d) :
    Calls Try.prog 23 #[.slice A xs.length c, .slice S xs.length d] W fun e w' => e = .returned (.bool true) ∧ Below W.heap.size W w' :=
  (cohousingref36_SameInts.calls 20 A c xs S d xs true W h1 hc h2 hd h).mono fun e w' ⟨he, hb⟩ => ⟨he, hb.below⟩

theorem same_bools (xs : List Bool) (A S : Option Addr) (c d : Nat) (W : World) (h : cohousingref36_SameBools.f 20 xs xs = some true) (h1 : Kd.C Kd.bool W A xs.length xs) (hc : xs.length ≤ c) (h2 : Kd.C Kd.bool W S xs.length xs) (hd : xs.length ≤ d) :
    Calls Try.prog 17 #[.slice A xs.length c, .slice S xs.length d] W fun e w' => e = .returned (.bool true) ∧ Below W.heap.size W w' :=
  (cohousingref36_SameBools.calls 20 A c xs S d xs true W h1 hc h2 hd h).mono fun e w' ⟨he, hb⟩ => ⟨he, hb.below⟩
theorem same_states (xs : List (List Bool)) (A S : Option Addr) (c d : Nat) (W : World) (h : cohousingref36_SameStates.f 20 xs xs = some true) (h1 : Kd.C (Kd.slice 4 Kd.bool) W A xs.length xs) (hc : xs.length ≤ c) (h2 : Kd.C (Kd.slice 4 Kd.bool) W S xs.length xs) (hd : xs.length ≤ d) :
    Calls Try.prog 20 #[.slice A xs.length c, .slice S xs.length d] W fun e w' => e = .returned (.bool true) ∧ Below W.heap.size W w' :=
  (cohousingref36_SameStates.calls 20 A c xs S d xs true W h1 hc h2 hd h).mono fun e w' ⟨he, hb⟩ => ⟨he, hb.below⟩
set_option maxRecDepth 100000 in
set_option maxHeartbeats 8000000 in
theorem head_calls (w : World) : Calls Try.prog 11 #[] w fun e w' => e = .returned (.bool true) ∧ Below w.heap.size w w' := by
  have hu48 := Try.underlying48
  have hu44 := Try.underlying44
  have HWET : Hid (Kd.C k48 (w.alloc (.cells #[.int .i64 2, .bool true, .int .i64 3] 48)) (some ⟨w.heap.size, 0, none⟩) 1 [⟨2, true, 3⟩]) := C48 w [⟨2, true, 3⟩] (by decide)
  go_enter Try.func11, Try.ntmps11
  go_wp2_with fail
  refine (house_calls _).mono ?_
  rintro e w1 ⟨A1, c1, rfl, hH1, hl1, hb1⟩
  have HB1 := Lib.hid (below_step (below_alloc (below_alloc (Below.refl w.heap.size w) _) _) hb1)
  have HW1 := Lib.hid (Kd.C_below (Kd.C_below HWET.out (below_alloc (Below.refl _ _) _)) hb1)
  have HS1 : Hid (w1.heap[w.heap.size + 1]? = some (.cells #[.int .i64 2, .bool true, .int .i64 3, .int .i64 1, .bool false, .int .i64 4] 48 (0, 0))) := by
    have h := blk_below (heap_alloc_new (w.alloc (.cells #[.int .i64 2, .bool true, .int .i64 3] 48)) (.cells #[.int .i64 2, .bool true, .int .i64 3, .int .i64 1, .bool false, .int .i64 4] 48)) hb1
    rw [World.size_alloc] at h
    exact h
  have HH1 := Lib.hid (And.intro hH1 hl1)
  clear hH1 hl1 hb1 HWET
  go_wp2_with fail
  refine (states_house [⟨2, true, 3⟩] 3 _ _ _ _ _ _ w1 st1 HH1.out.1 HH1.out.2 HW1.out).mono ?_
  rintro e w2 ⟨AS, cS, rfl, hCS, hlS, hb2⟩
  have HCS := Lib.hid (And.intro hCS hlS)
  have HB2 := Lib.hid (below_step HB1.out hb2)
  have HW2 := Lib.hid (Kd.C_below HW1.out hb2)
  have HS2 := Lib.hid (blk_below HS1.out hb2)
  clear hCS hlS hb2 HB1 HW1 HS1 HH1
  go_wp2_with fail
  refine (house_calls _).mono ?_
  rintro e w3 ⟨A2, c2, rfl, hH2, hl2, hb3⟩
  have HB3 := Lib.hid (below_step HB2.out hb3)
  have HW3 := Lib.hid (Kd.C_below HW2.out hb3)
  have HS3 := Lib.hid (blk_below HS2.out hb3)
  have HCS3 := Lib.hid (Kd.C_below HCS.out.1 hb3)
  have HH2 := Lib.hid (And.intro hH2 hl2)
  clear hH2 hl2 hb3 HB2 HW2 HS2
  go_wp2_with fail
  refine (blame_house [⟨2, true, 3⟩] 3 _ _ _ _ _ _ _ w3 bl1 HH2.out.1 HH2.out.2 HW3.out).mono ?_
  rintro e w4 ⟨Aa, ca, Ab, cb, rfl, hCa, hla, hCb, hlb, hb4⟩
  replace HB3 := Lib.hid (below_step HB3.out hb4)
  replace HS3 := Lib.hid (blk_below HS3.out hb4)
  replace HCS3 := Lib.hid (Kd.C_below HCS3.out hb4)
  have HB := HB3
  have HS := HS3
  have HST := HCS3
  have HCb := Lib.hid hCb
  have hlS0 := HCS.out.2
  clear HB3 HS3 HCS3 HH2 HW3 hCa hla hCb hb4 HCS
  simp only [List.length_cons, List.length_nil, Nat.zero_add, Nat.reduceAdd] at hlb hlS0
  go_wp2_with fail
  refine (house_calls _).mono ?_
  rintro e w5 ⟨A5, c5, rfl, hH, hl5, hb⟩
  replace HST := Lib.hid (Kd.C_below HST.out hb)
  replace HCb := Lib.hid (Kd.C_below HCb.out hb)
  replace HS := Lib.hid (blk_below HS.out hb)
  replace HB := Lib.hid (below_step HB.out hb)
  have HH5 := Lib.hid hH
  clear hb hH
  go_wp2_with fail
  refine (blame_house [⟨2, true, 3⟩, ⟨1, false, 4⟩] 4 _ _ _ _ _ _ _ _ bl2 HH5.out hl5 (B48 [⟨2, true, 3⟩, ⟨1, false, 4⟩] HS.out (by decide))).mono ?_
  rintro e w6 ⟨Ac, cc, Ad, cd, rfl, hCc, hlc, hCd, hld, hb⟩
  replace HST := Lib.hid (Kd.C_below HST.out hb)
  replace HCb := Lib.hid (Kd.C_below HCb.out hb)
  replace HH5 := Lib.hid (Kd.C_below HH5.out hb)
  replace HS := Lib.hid (blk_below HS.out hb)
  replace HB := Lib.hid (below_step HB.out hb)
  have HCc := Lib.hid hCc
  have HCd := Lib.hid hCd
  clear hb hCc hCd
  clear HH5
  go_wp2_with fail
  refine (house_calls _).mono ?_
  rintro e w7 ⟨A6, c6, rfl, hH, hl6, hb⟩
  replace HST := Lib.hid (Kd.C_below HST.out hb)
  replace HCb := Lib.hid (Kd.C_below HCb.out hb)
  replace HCc := Lib.hid (Kd.C_below HCc.out hb)
  replace HCd := Lib.hid (Kd.C_below HCd.out hb)
  replace HS := Lib.hid (blk_below HS.out hb)
  replace HB := Lib.hid (below_step HB.out hb)
  have HH6 := Lib.hid hH
  clear hb hH
  go_wp2_with fail
  refine (blame_house [⟨2, true, 3⟩, ⟨1, false, 4⟩] 3 _ _ _ _ _ _ _ _ bl3 HH6.out hl6 (B48 [⟨2, true, 3⟩, ⟨1, false, 4⟩] HS.out (by decide))).mono ?_
  rintro e w8 ⟨Ax, cx, Ay, cy, rfl, hCx, hlx, hCy, hly, hb⟩
  replace HST := Lib.hid (Kd.C_below HST.out hb)
  replace HCb := Lib.hid (Kd.C_below HCb.out hb)
  replace HCc := Lib.hid (Kd.C_below HCc.out hb)
  replace HCd := Lib.hid (Kd.C_below HCd.out hb)
  replace HH6 := Lib.hid (Kd.C_below HH6.out hb)
  replace HS := Lib.hid (blk_below HS.out hb)
  replace HB := Lib.hid (below_step HB.out hb)
  have HCy := Lib.hid hCy
  clear hb hCx hCy hlx
  clear HH6
  go_wp2_with fail
  refine (house_calls _).mono ?_
  rintro e w9 ⟨A7, c7, rfl, hH, hl7, hb⟩
  replace HST := Lib.hid (Kd.C_below HST.out hb)
  replace HCb := Lib.hid (Kd.C_below HCb.out hb)
  replace HCc := Lib.hid (Kd.C_below HCc.out hb)
  replace HCd := Lib.hid (Kd.C_below HCd.out hb)
  replace HCy := Lib.hid (Kd.C_below HCy.out hb)
  replace HS := Lib.hid (blk_below HS.out hb)
  replace HB := Lib.hid (below_step HB.out hb)
  have HH7 := Lib.hid hH
  clear hb hH
  have HSA : Hid (∀ o : Obj, (w9.alloc o).heap[w.heap.size + 1]? = some (.cells #[.int .i64 2, .bool true, .int .i64 3, .int .i64 1, .bool false, .int .i64 4] 48 (0, 0))) := fun o => blk_alloc HS.out o
  obtain ⟨i0, hi, hzz⟩ := Option.map_eq_some_iff.1 info48
  simp only [Prod.mk.injEq] at hzz
  obtain ⟨hz0, hz1, hz2⟩ := hzz
  have HZ := Lib.hid (And.intro hi (And.intro hz0 (And.intro hz1 hz2)))
  clear hi hz0 hz1 hz2
  go_wp2_with (at_builtin; refine wpList_append_grows _ rfl (.tmp 54) (.tmp 56) 24 rfl 48 i0 (.agg #[.int .i64 0, .bool false, .int .i64 0]) 3 24 Try.underlying24 HZ.out.1 HZ.out.2.1 HZ.out.2.2.1 HZ.out.2.2.2 rfl (by decide) (some ⟨w.heap.size + 1, 0, none⟩) 2 2 [.int .i64 2, .bool true, .int .i64 3, .int .i64 1, .bool false, .int .i64 4] rfl (fun h => by cases h) rfl ?ho ⟨w9.heap.size, 0, none⟩ 1 1 [.int .i64 0, .bool false, .int .i64 4] rfl rfl ?hc (by simp [Value.oneCell']) (by decide) (by decide) (by decide) ?_; (case ho => rintro b hb j u hj; cases hb; rw [add_plain, blk_cell (HSA.out _) j]; simpa using hj); (case hc => intro j u hj; rw [add_plain, blk_cell (heap_alloc_new _ _) j]; simpa using hj); intro v2 W2 ho hg; have hb := below_step (below_alloc (Below.refl w9.heap.size w9) _) (below_none hg); obtain ⟨B2, cB2, rfl, hCB2⟩ := S48_own [⟨2, true, 3⟩, ⟨1, false, 4⟩, ⟨0, false, 4⟩] ho rfl; have HAP := Lib.hid hCB2; have HBA := Lib.hid hb; clear ho hg hb hCB2)
  replace HH7 := Lib.hid (Kd.C_below HH7.out HBA.out)
  replace HST := Lib.hid (Kd.C_below HST.out HBA.out)
  replace HCb := Lib.hid (Kd.C_below HCb.out HBA.out)
  replace HCc := Lib.hid (Kd.C_below HCc.out HBA.out)
  replace HCd := Lib.hid (Kd.C_below HCd.out HBA.out)
  replace HCy := Lib.hid (Kd.C_below HCy.out HBA.out)
  replace HB := Lib.hid (below_step HB.out HBA.out)
  clear HS HSA HBA HZ
  go_wp2_with fail
  refine (blame_house [⟨2, true, 3⟩, ⟨1, false, 4⟩, ⟨0, false, 4⟩] 4 _ _ _ _ _ _ _ _ bl4 HH7.out hl7 HAP.out).mono ?_
  rintro e w10 ⟨Ae, ce, Af, cf, rfl, hCe, hle, hCf, hlf, hb⟩
  replace HST := Lib.hid (Kd.C_below HST.out hb)
  replace HCb := Lib.hid (Kd.C_below HCb.out hb)
  replace HCc := Lib.hid (Kd.C_below HCc.out hb)
  replace HCd := Lib.hid (Kd.C_below HCd.out hb)
  replace HCy := Lib.hid (Kd.C_below HCy.out hb)
  replace HH7 := Lib.hid (Kd.C_below HH7.out hb)
  replace HAP := Lib.hid (Kd.C_below HAP.out hb)
  replace HB := Lib.hid (below_step HB.out hb)
  clear hb hCe hle hCf hlf
  clear HH7 HAP
  go_wp2_with fail
  refine (house_calls _).mono ?_
  rintro e w11 ⟨A8, c8, rfl, hH, hl8, hb⟩
  replace HST := Lib.hid (Kd.C_below HST.out hb)
  replace HCb := Lib.hid (Kd.C_below HCb.out hb)
  replace HCc := Lib.hid (Kd.C_below HCc.out hb)
  replace HCd := Lib.hid (Kd.C_below HCd.out hb)
  replace HCy := Lib.hid (Kd.C_below HCy.out hb)
  replace HB := Lib.hid (below_step HB.out hb)
  have HH8 := Lib.hid hH
  clear hb hH
  have HTF := Lib.hid (Cbool w11 [true, false] (by decide))
  go_wp2_with fail
  refine (run_house [true, false] _ _ _ _ _ _ _ rn1 (Kd.C_alloc HH8.out _) hl8 HTF.out).mono ?_
  rintro e w12 ⟨Av, cv, rfl, hCv, hlv, hb0⟩
  have hb := below_step (below_alloc (Below.refl w11.heap.size w11) _) hb0
  replace HST := Lib.hid (Kd.C_below HST.out hb)
  replace HCb := Lib.hid (Kd.C_below HCb.out hb)
  replace HCc := Lib.hid (Kd.C_below HCc.out hb)
  replace HCd := Lib.hid (Kd.C_below HCd.out hb)
  replace HCy := Lib.hid (Kd.C_below HCy.out hb)
  replace HH8 := Lib.hid (Kd.C_below HH8.out hb)
  replace HB := Lib.hid (below_step HB.out hb)
  have HCv := Lib.hid hCv
  clear hb hb0 hCv HTF
  clear HH8
  go_wp2_with fail
  refine (same_states [[false, true], [true, false], [true, true]] _ _ _ _ _ sm1 (Kd.C_alloc (Kd.C_alloc (Kd.C_alloc (Kd.C_alloc HST.out _) _) _) _) hlS0 (lit_states w12) (by decide)).mono ?_
  rintro e w13 ⟨rfl, hb0⟩
  have hb := below_step (below_alloc (below_alloc (below_alloc (below_alloc (Below.refl w12.heap.size w12) _) _) _) _) hb0
  replace HST := Lib.hid (Kd.C_below HST.out hb)
  replace HCb := Lib.hid (Kd.C_below HCb.out hb)
  replace HCc := Lib.hid (Kd.C_below HCc.out hb)
  replace HCd := Lib.hid (Kd.C_below HCd.out hb)
  replace HCy := Lib.hid (Kd.C_below HCy.out hb)
  replace HCv := Lib.hid (Kd.C_below HCv.out hb)
  replace HB := Lib.hid (below_step HB.out hb)
  clear hb hb0
  go_wp2_with fail
  refine (same_ints [5, 7] _ _ _ _ _ sm2 (Kd.C_alloc HCb.out _) hlb (Cint w13 [5, 7] (by decide)) (by decide)).mono ?_
  rintro e w14 ⟨rfl, hb0⟩
  have hb := below_step (below_alloc (Below.refl w13.heap.size w13) _) hb0
  replace HST := Lib.hid (Kd.C_below HST.out hb)
  replace HCb := Lib.hid (Kd.C_below HCb.out hb)
  replace HCc := Lib.hid (Kd.C_below HCc.out hb)
  replace HCd := Lib.hid (Kd.C_below HCd.out hb)
  replace HCy := Lib.hid (Kd.C_below HCy.out hb)
  replace HCv := Lib.hid (Kd.C_below HCv.out hb)
  replace HB := Lib.hid (below_step HB.out hb)
  clear hb hb0
  clear HST HCb
  go_wp2_with fail
  refine (same_ints [5] _ _ _ _ _ sm3 (Kd.C_alloc HCc.out _) hlc (Cint w14 [5] (by decide)) (by decide)).mono ?_
  rintro e w15 ⟨rfl, hb0⟩
  have hb := below_step (below_alloc (Below.refl w14.heap.size w14) _) hb0
  replace HCc := Lib.hid (Kd.C_below HCc.out hb)
  replace HCd := Lib.hid (Kd.C_below HCd.out hb)
  replace HCy := Lib.hid (Kd.C_below HCy.out hb)
  replace HCv := Lib.hid (Kd.C_below HCv.out hb)
  replace HB := Lib.hid (below_step HB.out hb)
  clear hb hb0
  go_wp2_with fail
  refine (same_ints [5] _ _ _ _ _ sm3 (Kd.C_alloc HCd.out _) hld (Cint w15 [5] (by decide)) (by decide)).mono ?_
  rintro e w16 ⟨rfl, hb0⟩
  have hb := below_step (below_alloc (Below.refl w15.heap.size w15) _) hb0
  replace HCc := Lib.hid (Kd.C_below HCc.out hb)
  replace HCd := Lib.hid (Kd.C_below HCd.out hb)
  replace HCy := Lib.hid (Kd.C_below HCy.out hb)
  replace HCv := Lib.hid (Kd.C_below HCv.out hb)
  replace HB := Lib.hid (below_step HB.out hb)
  clear hb hb0
  clear HCc HCd
  go_wp2_with fail
  refine (same_ints [5, 7] _ _ _ _ _ sm2 (Kd.C_alloc HCy.out _) hly (Cint w16 [5, 7] (by decide)) (by decide)).mono ?_
  rintro e w17 ⟨rfl, hb0⟩
  have hb := below_step (below_alloc (Below.refl w16.heap.size w16) _) hb0
  replace HCy := Lib.hid (Kd.C_below HCy.out hb)
  replace HCv := Lib.hid (Kd.C_below HCv.out hb)
  replace HB := Lib.hid (below_step HB.out hb)
  clear hb hb0
  go_wp2_with fail
  refine (same_bools [true, false, true] _ _ _ _ _ sm4 (Kd.C_alloc HCv.out _) hlv (Cbool w17 [true, false, true] (by decide)) (by decide)).mono ?_
  rintro e w18 ⟨rfl, hb0⟩
  have hb := below_step (below_alloc (Below.refl w17.heap.size w17) _) hb0
  replace HCy := Lib.hid (Kd.C_below HCy.out hb)
  replace HCv := Lib.hid (Kd.C_below HCv.out hb)
  replace HB := Lib.hid (below_step HB.out hb)
  clear hb hb0
  clear HCy HCv
  go_wp2_with fail
  refine (house_calls _).mono ?_
  rintro e w19 ⟨A9, c9, rfl, hH, hl9, hb⟩
  replace HB := Lib.hid (below_step HB.out hb)
  have HH9 := Lib.hid hH
  clear hb hH
  go_wp2_with fail
  refine (cause_Valid.calls 20 _ _ houseL true _ HH9.out hl9 vl1).mono ?_
  rintro e w20 ⟨rfl, hb⟩
  replace HH9 := Lib.hid (Kd.C_below HH9.out hb)
  replace HB := Lib.hid (below_step HB.out hb)
  clear hb 
  clear HH9
  go_wp2_with fail
  refine (cause_Valid.calls 20 _ _ [⟨0, [0], [true, false]⟩] false _ (lit_var w20) (by decide) vl2).mono ?_
  rintro e w21 ⟨rfl, hb0⟩
  have hb := below_step (below_alloc (below_alloc (below_alloc (Below.refl w20.heap.size w20) _) _) _) hb0
  replace HB := Lib.hid (below_step HB.out hb)
  clear hb hb0
  go_wp2_with fail
  go_ret
  exact ⟨rfl, HB.out⟩
def cohousinglaw36_head.f : Option Bool := some true
theorem cohousinglaw36_head.calls (r : Bool) (w : World) (h : cohousinglaw36_head.f = some r) : Calls Try.prog 11 #[] w fun e w' => e = .returned (.bool r) ∧ Below w.heap.size w w' := by
  obtain rfl := Option.some.inj h
  exact head_calls w
end Go.Proofs.Ytjdhnhfglpogmaa.P
