/- keys.find told plainly; one attestation of Renew. -/
import Derived.Test.YtcnkenknbmmglaaDoorXformed
import Derived.Test.YtcnkenknbmmglaaDoorGp2
import Derived.Test.YtcnkenknbmmglaaDoorXints
import Derived.Test.YtcnkenknbmmglaaDoorPx8
set_option linter.unusedSimpArgs false
set_option linter.unusedVariables false
namespace Go.Proofs.YtcnkenknbmmglaaDoor.P
open Go Go.RowKit Go.Proofs.YtcnkenknbmmglaaDoorW.PrintWords Go.Proofs.YtcnkenknbmmglaaDoorW.PrintLast Go.Proofs.YtcnkenknbmmglaaDoorW.PrintMore Go.Proofs.YtcnkenknbmmglaaDoor.Ord

/-- The key of a household on a day. -/
def findV (l : List S49) (h on : Int) : Int × Bool :=
  if behV l h on = 0 then (0, false) else if (rd_T49 l ((behV l h on - 1 : Nat) : Int)).f0 = h then ((rd_T49 l ((behV l h on - 1 : Nat) : Int)).f1, true) else (0, false)
theorem behV_le (l : List S49) (h on : Int) : behV l h on ≤ l.length := (bsV_le _ _ _ _ (Nat.zero_le _)).2
theorem find_f (l : List S49) (h on : Int) (hl : l.length < 1000000) : keys_find.f l h on = some (findV l h on) := by
  have hb := behV_le l h on
  unfold keys_find.f keys_behind.f findV
  rw [if_pos hl, obs]
  by_cases h0 : behV l h on = 0
  · rw [if_pos (by omega), if_pos h0]
  · have hw : wrap64 (((behV l h on : Nat) : Int) - 1) = ((behV l h on - 1 : Nat) : Int) := by unfold wrap64; omega
    rw [if_neg (by omega), if_neg h0, hw, if_pos (by omega), if_pos (by omega)]
    by_cases h1 : (rd_T49 l ((behV l h on - 1 : Nat) : Int)).f0 = h
    · rw [if_pos h1, if_pos h1]
    · rw [if_neg h1, if_neg h1]
/-- What Renew says of one attestation: 0, or an error's number. -/
def tryV (l : List S49) (ns : List Int) (x : S49) (y : S28) : Int :=
  if (findV l y.f3 x.f2).2 && ns.contains y.f3 then (if (verV (findV l y.f3 x.f2).1 y.f4.f0 y.f4.f1 [x.f0, x.f1, x.f2]).1 && (verV (findV l y.f3 x.f2).1 y.f4.f0 y.f4.f1 [x.f0, x.f1, x.f2]).2 == 0 then 0 else 31) else 4
def addS (ks : List Int) (x : Int) : List Int := if ks.contains x then ks else ks ++ [x]
def afterS (t : Int) (ks : List Int) (x : Int) : List Int := if t = 0 then addS ks x else ks
/-- What the closure sees. -/
structure Ren (W : World) (bl bx bn bw m : Nat) (A0 : Option Addr) (c0 : Nat) (l : List S49) (A1 : Option Addr) (c1 : Nat) (ns : List Int) (x : S49) : Prop where
  kl : Blk W bl 22 [.slice A0 l.length c0]
  kx : Blk W bx 49 (cK x)
  kn : Blk W bn 23 [.slice A1 ns.length c1]
  kw : Blk W bw 64 [.map (some m)]
  rl : Kd.C k49 W A0 l.length l
  rn : Kd.C (Kd.int .i64) W A1 ns.length ns
  t : TabOk W
theorem Ren.below {W W' : World} {bl bx bn bw m : Nat} {A0 : Option Addr} {c0 : Nat} {l : List S49} {A1 : Option Addr} {c1 : Nat} {ns : List Int} {x : S49} (h : Ren W bl bx bn bw m A0 c0 l A1 c1 ns x) (hb : Below W.heap.size W W') : Ren W' bl bx bn bw m A0 c0 l A1 c1 ns x :=
  ⟨h.kl.below hb h.kl.lt, h.kx.below hb h.kx.lt, h.kn.below hb h.kn.lt, h.kw.below hb h.kw.lt, Kd.C_below h.rl hb, Kd.C_below h.rn hb, h.t.below hb⟩
theorem grown_of {W W' : World} (h : Below W.heap.size W W') (r : Option Nat) : W.grownBy W' r := ⟨h.os, h.tape, h.output, h.size, fun k hk _ => h.block k hk⟩
theorem C_blk3 {W : World} {B : Nat} {t : TypeId} {a b c : Int} (h : Blk W B t [.int .i64 a, .int .i64 b, .int .i64 c]) : Kd.C (Kd.int .i64) W (some ⟨B, 0, none⟩) 3 [a, b, c] := by
  refine ⟨rfl, by omega, fun _ => ⟨_, rfl, fun j p hj => ⟨[.int .i64 p], rfl, rfl, fun i u hu => ?_⟩⟩⟩
  obtain rfl : i = 0 := by have := (List.getElem?_eq_some_iff.1 hu).1; simp at this; omega
  obtain rfl : Value.int .i64 p = u := by simpa using hu
  rw [Addr.add_lit]
  refine h.cell _ _ ?_
  match j, hj with
  | 0, hj => simpa using hj
  | 1, hj => exact (by simpa using hj : some (Value.int .i64 b) = some (.int .i64 p))
  | 2, hj => exact (by simpa using hj : some (Value.int .i64 c) = some (.int .i64 p))
set_option maxHeartbeats 4000000 in
set_option maxRecDepth 100000 in
theorem try_calls (bl bx bn bw m : Nat) (A0 : Option Addr) (c0 : Nat) (l : List S49) (A1 : Option Addr) (c1 : Nat) (ns : List Int) (x : S49) (y : S28) (ks : List Int) (W : World) (hR : Ren W bl bx bn bw m A0 c0 l A1 c1 ns x) (hS : IntSet W m ks)
    (hl : l.length ≤ c0) (hl1 : l.length ≤ 1000) (hn : ns.length ≤ c1) (hn1 : ns.length ≤ 1000) (hx : ∀ z ∈ [x.f0, x.f1, x.f2], okInt z = true) :
    Calls Tryd.prog 36 #[.agg #[.int .i64 y.f0, .int .i64 y.f1, .int .i64 y.f2, .int .i64 y.f3, .int .i64 y.f4.f0, .int .i64 y.f4.f1], .pointer (some ⟨bl, 0, none⟩), .pointer (some ⟨bx, 0, none⟩), .pointer (some ⟨bn, 0, none⟩), .pointer (some ⟨bw, 0, none⟩)] W
      fun e W' => e = .returned (.int .i64 (tryV l ns x y)) ∧ IntSet W' m (afterS (tryV l ns x y) ks y.f3) ∧ W.grownBy W' (some m) := by
  have HR := Lib.hid hR
  have HS := Lib.hid hS
  have HX := Lib.hid hx
  have f0 : ∀ o, (W.alloc o).cell? ⟨bl, 0, none⟩ = _ := fun o => (hR.kl.alloc o).cell 0 _ rfl
  have f1 : ∀ o, (W.alloc o).cell? ⟨bx, 2, none⟩ = _ := fun o => (hR.kx.alloc o).cell 2 _ rfl
  clear hR hS hx
  go_enter Tryd.func36, Tryd.ntmps36
  go_wp2_with fail
  obtain ⟨hb0, hs0, hw0⟩ := Blk.box W 28 (vC y)
  rw [show (vC y).toArray = #[.int .i64 y.f0, .int .i64 y.f1, .int .i64 y.f2, .int .i64 y.f3, .int .i64 y.f4.f0, .int .i64 y.f4.f1] from rfl] at hb0 hs0 hw0
  clear f0 f1
  generalize W.alloc (.cells #[.int .i64 y.f0, .int .i64 y.f1, .int .i64 y.f2, .int .i64 y.f3, .int .i64 y.f4.f0, .int .i64 y.f4.f1] 28) = w0 at *
  obtain ⟨b, hbb⟩ : ∃ b, W.heap.size = b := ⟨_, rfl⟩
  rw [hbb] at hb0 hs0 hw0 ⊢
  have HW0 := Lib.hid (show Below W.heap.size W w0 by rw [hbb]; exact hw0)
  have HB0 := Lib.hid hb0
  have HR0 := Lib.hid (HR.out.below HW0.out)
  have HS0 := Lib.hid (show IntSet w0 m ks from HS.out.same (HW0.out.block _ HS.out.lt))
  clear hb0 hs0 hw0 hbb HS
  obtain ⟨r, hr⟩ : ∃ r, findV l y.f3 x.f2 = r := ⟨_, rfl⟩
  obtain ⟨pub, ok⟩ := r
  refine (keys_find.calls A0 c0 l y.f3 x.f2 pub ok w0 HR0.out.rl hl (by rw [find_f l _ _ (by omega), hr])).mono ?_
  rintro e w1 ⟨rfl, hd⟩
  have HW1 := Lib.hid (HW0.out.trans (Below.mono hd HW0.out.size))
  have HB1 := Lib.hid (HB0.out.below hd HB0.out.lt)
  have HR1 := Lib.hid (HR0.out.below hd)
  have HS1 := Lib.hid (show IntSet w1 m ks from HS0.out.same (hd.block _ HS0.out.lt))
  have HV := Lib.hid hr
  clear hd HB0 HR0 HS0 HW0 HR hr
  have f2 := HR1.out.kn.cell 0 _ rfl
  have f3 := HB1.out.cell 3 _ rfl
  cases ok with
  | false =>
    have ht : tryV l ns x y = 4 := by unfold tryV; rw [HV.out]; rfl
    have HT := Lib.hid ht
    clear ht
    go_wp2_with fail
    go_ret
    exact ⟨by rw [HT.out]; rfl, by rw [HT.out]; exact HS1.out, grown_of HW1.out _⟩
  | true =>
    go_wp2_with fail
    clear f2 f3
    refine (slices_Contains_int_int.calls 2000 A1 c1 ns y.f3 (ns.contains y.f3) w1 HR1.out.rn hn (contains_f ns y.f3 2000 (by omega) (by omega))).mono ?_
    rintro e w2 ⟨rfl, hd0⟩
    have hd := hd0.below
    have HW2 := Lib.hid (HW1.out.trans (Below.mono hd HW1.out.size))
    have HB2 := Lib.hid (HB1.out.below hd HB1.out.lt)
    have HR2 := Lib.hid (HR1.out.below hd)
    have HS2 := Lib.hid (show IntSet w2 m ks from HS1.out.same (hd.block _ HS1.out.lt))
    clear hd0 hd HB1 HR1 HS1 HW1
    cases hcn : ns.contains y.f3 with
    | false =>
      have ht : tryV l ns x y = 4 := by unfold tryV; rw [HV.out, hcn]; rfl
      have HT := Lib.hid ht
      clear ht
      go_wp2_with fail
      go_ret
      exact ⟨by rw [HT.out]; rfl, by rw [HT.out]; exact HS2.out, grown_of HW2.out _⟩
    | true =>
      have g0 := HB2.out.cell 4 _ rfl
      have g1 := HB2.out.cell 5 _ rfl
      have k0 := HR2.out.kx.cell 0 _ rfl
      have k1 := HR2.out.kx.cell 1 _ rfl
      have k2 := HR2.out.kx.cell 2 _ rfl
      go_wp2_with fail
      clear g0 g1 k0 k1 k2
      obtain ⟨hb0, hs0, hw0⟩ := Blk.box w2 3 [.int .i64 x.f0, .int .i64 x.f1, .int .i64 x.f2]
      rw [show [Value.int .i64 x.f0, .int .i64 x.f1, .int .i64 x.f2].toArray = #[.int .i64 x.f0, .int .i64 x.f1, .int .i64 x.f2] from rfl] at hb0 hs0 hw0
      generalize w2.alloc (.cells #[.int .i64 x.f0, .int .i64 x.f1, .int .i64 x.f2] 3) = w3 at *
      have HW3 := Lib.hid (HW2.out.trans (Below.mono hw0 HW2.out.size))
      have HB3 := Lib.hid (HB2.out.below hw0 HB2.out.lt)
      have HR3 := Lib.hid (HR2.out.below hw0)
      have HS3 := Lib.hid (show IntSet w3 m ks from HS2.out.same (hw0.block _ HS2.out.lt))
      have HC3 := Lib.hid (C_blk3 hb0)
      obtain ⟨B, hBe⟩ : ∃ B, w2.heap.size = B := ⟨_, rfl⟩
      rw [hBe] at HC3 ⊢
      clear hw0 hb0 hs0 hBe HB2 HR2 HS2 HW2
      obtain ⟨r, hvr⟩ : ∃ r, verV pub y.f4.f0 y.f4.f1 [x.f0, x.f1, x.f2] = r := ⟨_, rfl⟩
      obtain ⟨right, er⟩ := r
      refine (group_Verify.calls 10 pub y.f4.f0 y.f4.f1 (some ⟨B, 0, none⟩) 3 [x.f0, x.f1, x.f2] right er w3 HC3.out (Nat.le_refl _) HR3.out.t (by rw [verify_f _ _ _ _ ⟨by simp, HX.out⟩ 10 (Nat.le_refl _), hvr])).mono ?_
      rintro e w4 ⟨rfl, hd⟩
      have HW4 := Lib.hid (HW3.out.trans (Below.mono hd HW3.out.size))
      have HB4 := Lib.hid (HB3.out.below hd HB3.out.lt)
      have HR4 := Lib.hid (HR3.out.below hd)
      have HS4 := Lib.hid (show IntSet w4 m ks from HS3.out.same (hd.block _ HS3.out.lt))
      have HVR := Lib.hid hvr
      clear hd HB3 HR3 HS3 HW3 HC3 hvr
      have ht := show tryV l ns x y = if right && er == 0 then 0 else 31 by unfold tryV; rw [HV.out, hcn, HVR.out]; rfl
      cases he : (er == 0) with
      | false =>
        rw [he, Bool.and_false, if_neg (by decide)] at ht
        have he2 : ¬ er = 0 := by simpa using he
        have HT := Lib.hid ht
        clear ht
        go_wp2_with fail
        go_ret
        exact ⟨by rw [HT.out]; rfl, by rw [HT.out]; exact HS4.out, grown_of HW4.out _⟩
      | true =>
        obtain rfl : er = 0 := by simpa using he
        cases right with
        | false =>
          rw [Bool.false_and, if_neg (by decide)] at ht
          have HT := Lib.hid ht
          clear ht
          go_wp2_with fail
          go_ret
          exact ⟨by rw [HT.out]; rfl, by rw [HT.out]; exact HS4.out, grown_of HW4.out _⟩
        | true =>
          replace ht : tryV l ns x y = 0 := ht
          have k4 := HR4.out.kw.cell 0 _ rfl
          have k5 := HB4.out.cell 3 _ rfl
          have HT := Lib.hid ht
          clear ht
          go_wp2_with (at_mapUpdate; refine wpList_update_set rfl _ _ _ rfl Tryd.underlying64 Tryd.underlying3 rfl HS4.out _ rfl rfl ?_; intro W2 hm2 hg2; have HK := Lib.hid (And.intro hm2 hg2); clear hm2 hg2 k4 k5)
          go_ret
          refine ⟨by rw [HT.out]; rfl, by rw [HT.out]; exact HK.out.1, (grown_of HW4.out _).trans HK.out.2⟩
end Go.Proofs.YtcnkenknbmmglaaDoor.P
