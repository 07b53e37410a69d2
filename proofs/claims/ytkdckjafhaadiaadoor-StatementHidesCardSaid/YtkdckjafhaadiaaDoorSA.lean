/- slices.IndexFunc and slices.ContainsFunc at whole numbers, lines and commitments: what they answer for a predicate that writes nothing that was there. -/
import Derived.Test.YtkdckjafhaadiaaDoorGen
import Derived.Test.YtkdckjafhaadiaaDoorPx0
import Derived.RangeFuncRecord
import Derived.Test.YtkdckjafhaadiaaDoorNt
import Derived.Test.YtkdckjafhaadiaaDoorPx4
import Derived.Test.YtkdckjafhaadiaaDoorPx3
import Derived.Test.YtkdckjafhaadiaaDoorPx3
import Derived.Test.YtkdckjafhaadiaaDoorPx4
import Derived.Test.YtkdckjafhaadiaaDoorPx4
import Derived.Test.YtkdckjafhaadiaaDoorPx4
import Derived.Test.YtkdckjafhaadiaaDoorPx4
import Derived.Test.YtkdckjafhaadiaaDoorXints
import Derived.Test.YtkdckjafhaadiaaDoorOrd
import Derived.Test.YtkdckjafhaadiaaDoorPx4
import Derived.Test.YtkdckjafhaadiaaDoorPx4
set_option linter.unusedSimpArgs false
set_option linter.unusedVariables false
namespace Go.Proofs.YtkdckjafhaadiaaDoor.P
open Go Go.RowKit Go.Proofs.YtkdckjafhaadiaaDoorW.PrintWords Go.Proofs.YtkdckjafhaadiaaDoorW.PrintLast Go.Proofs.YtkdckjafhaadiaaDoorW.PrintMore

/-- The first place (counted from k on) where p holds; else -1. -/
def fstL {α : Type} (p : α → Bool) : List α → Nat → Int
  | [], _ => -1
  | x :: l, k => if p x then (k : Int) else fstL p l (k + 1)
theorem fstL_any {α : Type} (p : α → Bool) : ∀ (l : List α) (k : Nat), decide (0 ≤ fstL p l k) = l.any p
  | [], k => rfl
  | x :: l, k => by
    unfold fstL
    rw [List.any_cons]
    cases h : p x with
    | true => simp
    | false => simpa using fstL_any p l (k + 1)
theorem rd_getI {l : List Int} {k : Nat} (h : k < l.length) : rd l (k : Int) = l[k] := by simp [rd, List.getD_eq_getElem?_getD, List.getElem?_eq_getElem h]
theorem rd_getL {l : List S50} {k : Nat} (h : k < l.length) : rd_T50 l (k : Int) = l[k] := by unfold rd_T50; simp [List.getD_eq_getElem?_getD, List.getElem?_eq_getElem h]
theorem rd_getS {l : List S45} {k : Nat} (h : k < l.length) : rd_T45 l (k : Int) = l[k] := by unfold rd_T45; simp [List.getD_eq_getElem?_getD, List.getElem?_eq_getElem h]
set_option maxHeartbeats 1000000 in
theorem idx_I {g : Nat} {cap : Array Value} (q : Int → Bool) (l : List Int) (A : Option Addr) (c : Nat) (w : World) (hr : Kd.C (Kd.int .i64) w A l.length l)
    (hp : ∀ x W, x ∈ l → Below w.heap.size w W → Calls Tryd.prog g (#[.int .i64 x] ++ cap) W fun e W' => e = .returned (.bool (q x)) ∧ Below W.heap.size W W')
    (eg : ∀ args w, (callFunc g args).run Tryd.prog w = .ok (.enter g args) w) :
    Calls Tryd.prog 62 #[.slice A l.length c, .func (.func g) #[] cap] w fun e w' => e = .returned (.int .i64 (fstL q l 0)) ∧ Below w.heap.size w w' := by
  have hl : l.length ≤ 9223372036854775807 := hr.2.1
  have HR := Lib.hid hr
  have HP := Lib.hid hp
  clear hr hp
  go_enter Tryd.func62, Tryd.ntmps62
  go_wp2_with fail
  go_loopw [8] (fun i wr => ∃ k : Nat, k ≤ l.length ∧ i = .int .i64 k ∧ Hid (Below w.heap.size w wr) ∧ Hid (fstL q (l.drop k) k = fstL q l 0)) (fun i _ => l.length - (intOf i).toNat)
  case atStart => exact ⟨0, Nat.zero_le _, rfl, Below.refl _ _, rfl⟩
  case round =>
    obtain ⟨k, hk, rfl, hB, hno⟩ := hrel
    by_cases hlt : k < l.length
    · obtain ⟨x, hx⟩ : ∃ x, rd l (k : Int) = x := ⟨_, rfl⟩
      obtain ⟨ad, rfl, h0⟩ := Kd.at_int (Kd.C_below HR.out hB.out) (k : Int) (by omega) (by omega)
      rw [hx] at h0
      simp only [Int.toNat_natCast] at h0
      have hg : l[k] = x := (rd_getI hlt).symm.trans hx
      have hd : l.drop k = x :: l.drop (k + 1) := by rw [List.drop_eq_getElem_cons hlt, hg]
      have hc := HP.out x wr (by rw [← hg]; exact List.getElem_mem hlt) hB.out
      have hs := hno.out
      rw [hd, fstL] at hs
      cases hpx : q x with
      | true =>
        rw [hpx] at hc
        rw [hpx, if_pos rfl] at hs
        have HS := Lib.hid hs
        clear hs hno hpx hg hd hx
        go_wp2_with fail
        refine hc.mono ?_
        rintro e w' ⟨rfl, hx'⟩
        have HX := Lib.hid (hB.out.trans (Below.mono hx' hB.out.size))
        clear hx' hc hB h0
        go_wp2
        go_ret
        exact ⟨by rw [HS.out]; rfl, HX.out⟩
      | false =>
        rw [hpx] at hc
        rw [hpx, if_neg (by decide)] at hs
        have HS := Lib.hid hs
        clear hs hno hpx hg hd hx
        go_wp2_with fail
        refine hc.mono ?_
        rintro e w' ⟨rfl, hx'⟩
        have HX := Lib.hid (hB.out.trans (Below.mono hx' hB.out.size))
        clear hx' hc hB h0
        go_wp2
        go_roundw
        case rel => exact ⟨k + 1, by omega, by go_num, HX.out, HS⟩
        case measure => simp [intOf]; omega
    · have hs := hno.out
      rw [List.drop_eq_nil_of_le (by omega), fstL] at hs
      have HS := Lib.hid hs
      clear hs hno
      go_wp2
      go_ret
      exact ⟨by rw [← HS.out]; rfl, hB.out⟩
set_option maxHeartbeats 1000000 in
theorem contains_I {g : Nat} {cap : Array Value} (q : Int → Bool) (l : List Int) (A : Option Addr) (c : Nat) (w : World) (hr : Kd.C (Kd.int .i64) w A l.length l)
    (hp : ∀ x W, x ∈ l → Below w.heap.size w W → Calls Tryd.prog g (#[.int .i64 x] ++ cap) W fun e W' => e = .returned (.bool (q x)) ∧ Below W.heap.size W W')
    (eg : ∀ args w, (callFunc g args).run Tryd.prog w = .ok (.enter g args) w) :
    Calls Tryd.prog 47 #[.slice A l.length c, .func (.func g) #[] cap] w fun e w' => e = .returned (.bool (l.any q)) ∧ Below w.heap.size w w' := by
  have C := Lib.hid (idx_I q l A c w hr hp eg)
  have HQ := Lib.hid (fstL_any q l 0)
  clear hr hp
  go_enter Tryd.func47, Tryd.ntmps47
  go_wp2_with fail
  refine C.out.mono ?_
  rintro e w' ⟨rfl, hx⟩
  have HX := Lib.hid hx
  clear hx
  go_wp2_with fail
  go_ret
  exact ⟨by rw [← HQ.out]; rfl, HX.out⟩
set_option maxHeartbeats 1000000 in
theorem idx_L {g : Nat} {cap : Array Value} (q : S50 → Bool) (l : List S50) (A : Option Addr) (c : Nat) (w : World) (hr : Kd.C k50 w A l.length l)
    (hp : ∀ x W, x ∈ l → Below w.heap.size w W → Calls Tryd.prog g (#[.agg #[.int .i64 x.f0, .int .i64 x.f1, .int .i64 x.f2]] ++ cap) W fun e W' => e = .returned (.bool (q x)) ∧ Below W.heap.size W W')
    (eg : ∀ args w, (callFunc g args).run Tryd.prog w = .ok (.enter g args) w) :
    Calls Tryd.prog 63 #[.slice A l.length c, .func (.func g) #[] cap] w fun e w' => e = .returned (.int .i64 (fstL q l 0)) ∧ Below w.heap.size w w' := by
  have hl : l.length ≤ 9223372036854775807 := hr.2.1
  have HR := Lib.hid hr
  have HP := Lib.hid hp
  clear hr hp
  go_enter Tryd.func63, Tryd.ntmps63
  go_wp2_with fail
  go_loopw [8] (fun i wr => ∃ k : Nat, k ≤ l.length ∧ i = .int .i64 k ∧ Hid (Below w.heap.size w wr) ∧ Hid (fstL q (l.drop k) k = fstL q l 0)) (fun i _ => l.length - (intOf i).toNat)
  case atStart => exact ⟨0, Nat.zero_le _, rfl, Below.refl _ _, rfl⟩
  case round =>
    obtain ⟨k, hk, rfl, hB, hno⟩ := hrel
    by_cases hlt : k < l.length
    · obtain ⟨x, hx⟩ : ∃ x, rd_T50 l (k : Int) = x := ⟨_, rfl⟩
      obtain ⟨ad, rfl, h0, h1, h2⟩ := at_T50 (Kd.C_below HR.out hB.out) (k : Int) (by omega) (by omega)
      rw [hx] at h0 h1 h2
      simp only [Int.toNat_natCast] at h0 h1 h2
      have hg : l[k] = x := (rd_getL hlt).symm.trans hx
      have hd : l.drop k = x :: l.drop (k + 1) := by rw [List.drop_eq_getElem_cons hlt, hg]
      have hc := HP.out x wr (by rw [← hg]; exact List.getElem_mem hlt) hB.out
      have hs := hno.out
      rw [hd, fstL] at hs
      cases hpx : q x with
      | true =>
        rw [hpx] at hc
        rw [hpx, if_pos rfl] at hs
        have HS := Lib.hid hs
        clear hs hno hpx hg hd hx
        go_wp2_with fail
        refine hc.mono ?_
        rintro e w' ⟨rfl, hx'⟩
        have HX := Lib.hid (hB.out.trans (Below.mono hx' hB.out.size))
        clear hx' hc hB h0 h1 h2
        go_wp2
        go_ret
        exact ⟨by rw [HS.out]; rfl, HX.out⟩
      | false =>
        rw [hpx] at hc
        rw [hpx, if_neg (by decide)] at hs
        have HS := Lib.hid hs
        clear hs hno hpx hg hd hx
        go_wp2_with fail
        refine hc.mono ?_
        rintro e w' ⟨rfl, hx'⟩
        have HX := Lib.hid (hB.out.trans (Below.mono hx' hB.out.size))
        clear hx' hc hB h0 h1 h2
        go_wp2
        go_roundw
        case rel => exact ⟨k + 1, by omega, by go_num, HX.out, HS⟩
        case measure => simp [intOf]; omega
    · have hs := hno.out
      rw [List.drop_eq_nil_of_le (by omega), fstL] at hs
      have HS := Lib.hid hs
      clear hs hno
      go_wp2
      go_ret
      exact ⟨by rw [← HS.out]; rfl, hB.out⟩
set_option maxHeartbeats 1000000 in
theorem contains_L {g : Nat} {cap : Array Value} (q : S50 → Bool) (l : List S50) (A : Option Addr) (c : Nat) (w : World) (hr : Kd.C k50 w A l.length l)
    (hp : ∀ x W, x ∈ l → Below w.heap.size w W → Calls Tryd.prog g (#[.agg #[.int .i64 x.f0, .int .i64 x.f1, .int .i64 x.f2]] ++ cap) W fun e W' => e = .returned (.bool (q x)) ∧ Below W.heap.size W W')
    (eg : ∀ args w, (callFunc g args).run Tryd.prog w = .ok (.enter g args) w) :
    Calls Tryd.prog 54 #[.slice A l.length c, .func (.func g) #[] cap] w fun e w' => e = .returned (.bool (l.any q)) ∧ Below w.heap.size w w' := by
  have C := Lib.hid (idx_L q l A c w hr hp eg)
  have HQ := Lib.hid (fstL_any q l 0)
  clear hr hp
  go_enter Tryd.func54, Tryd.ntmps54
  go_wp2_with fail
  refine C.out.mono ?_
  rintro e w' ⟨rfl, hx⟩
  have HX := Lib.hid hx
  clear hx
  go_wp2_with fail
  go_ret
  exact ⟨by rw [← HQ.out]; rfl, HX.out⟩
set_option maxHeartbeats 1000000 in
theorem idx_S {g : Nat} {cap : Array Value} (q : S45 → Bool) (l : List S45) (A : Option Addr) (c : Nat) (w : World) (hr : Kd.C k45 w A l.length l)
    (hp : ∀ x W, x ∈ l → Below w.heap.size w W → ∀ (A2 : Option Addr) (c2 : Nat), x.f2.length ≤ c2 → Kd.C (Kd.int .i64) W A2 x.f2.length x.f2 → Calls Tryd.prog g (#[.agg #[.int .i64 x.f0, .int .i64 x.f1, .slice A2 x.f2.length c2]] ++ cap) W fun e W' => e = .returned (.bool (q x)) ∧ Below W.heap.size W W')
    (eg : ∀ args w, (callFunc g args).run Tryd.prog w = .ok (.enter g args) w) :
    Calls Tryd.prog 29 #[.slice A l.length c, .func (.func g) #[] cap] w fun e w' => e = .returned (.int .i64 (fstL q l 0)) ∧ Below w.heap.size w w' := by
  have hl : l.length ≤ 9223372036854775807 := hr.2.1
  have HR := Lib.hid hr
  have HP := Lib.hid hp
  clear hr hp
  go_enter Tryd.func29, Tryd.ntmps29
  go_wp2_with fail
  go_loopw [8] (fun i wr => ∃ k : Nat, k ≤ l.length ∧ i = .int .i64 k ∧ Hid (Below w.heap.size w wr) ∧ Hid (fstL q (l.drop k) k = fstL q l 0)) (fun i _ => l.length - (intOf i).toNat)
  case atStart => exact ⟨0, Nat.zero_le _, rfl, Below.refl _ _, rfl⟩
  case round =>
    obtain ⟨k, hk, rfl, hB, hno⟩ := hrel
    by_cases hlt : k < l.length
    · obtain ⟨x, hx⟩ : ∃ x, rd_T45 l (k : Int) = x := ⟨_, rfl⟩
      obtain ⟨ad, A2, c2, rfl, h0, h1, h2, hle, hC⟩ := at_T45 (Kd.C_below HR.out hB.out) (k : Int) (by omega) (by omega)
      rw [hx] at h0 h1 h2 hle hC
      simp only [Int.toNat_natCast] at h0 h1 h2
      have hg : l[k] = x := (rd_getS hlt).symm.trans hx
      have hd : l.drop k = x :: l.drop (k + 1) := by rw [List.drop_eq_getElem_cons hlt, hg]
      have hc := HP.out x wr (by rw [← hg]; exact List.getElem_mem hlt) hB.out A2 c2 hle hC
      have hs := hno.out
      rw [hd, fstL] at hs
      cases hpx : q x with
      | true =>
        rw [hpx] at hc
        rw [hpx, if_pos rfl] at hs
        have HS := Lib.hid hs
        clear hs hno hpx hg hd hx
        go_wp2_with fail
        refine hc.mono ?_
        rintro e w' ⟨rfl, hx'⟩
        have HX := Lib.hid (hB.out.trans (Below.mono hx' hB.out.size))
        clear hx' hc hB h0 h1 h2 hle hC
        go_wp2
        go_ret
        exact ⟨by rw [HS.out]; rfl, HX.out⟩
      | false =>
        rw [hpx] at hc
        rw [hpx, if_neg (by decide)] at hs
        have HS := Lib.hid hs
        clear hs hno hpx hg hd hx
        go_wp2_with fail
        refine hc.mono ?_
        rintro e w' ⟨rfl, hx'⟩
        have HX := Lib.hid (hB.out.trans (Below.mono hx' hB.out.size))
        clear hx' hc hB h0 h1 h2 hle hC
        go_wp2
        go_roundw
        case rel => exact ⟨k + 1, by omega, by go_num, HX.out, HS⟩
        case measure => simp [intOf]; omega
    · have hs := hno.out
      rw [List.drop_eq_nil_of_le (by omega), fstL] at hs
      have HS := Lib.hid hs
      clear hs hno
      go_wp2
      go_ret
      exact ⟨by rw [← HS.out]; rfl, hB.out⟩
set_option maxHeartbeats 1000000 in
theorem contains_S {g : Nat} {cap : Array Value} (q : S45 → Bool) (l : List S45) (A : Option Addr) (c : Nat) (w : World) (hr : Kd.C k45 w A l.length l)
    (hp : ∀ x W, x ∈ l → Below w.heap.size w W → ∀ (A2 : Option Addr) (c2 : Nat), x.f2.length ≤ c2 → Kd.C (Kd.int .i64) W A2 x.f2.length x.f2 → Calls Tryd.prog g (#[.agg #[.int .i64 x.f0, .int .i64 x.f1, .slice A2 x.f2.length c2]] ++ cap) W fun e W' => e = .returned (.bool (q x)) ∧ Below W.heap.size W W')
    (eg : ∀ args w, (callFunc g args).run Tryd.prog w = .ok (.enter g args) w) :
    Calls Tryd.prog 48 #[.slice A l.length c, .func (.func g) #[] cap] w fun e w' => e = .returned (.bool (l.any q)) ∧ Below w.heap.size w w' := by
  have C := Lib.hid (idx_S q l A c w hr hp eg)
  have HQ := Lib.hid (fstL_any q l 0)
  clear hr hp
  go_enter Tryd.func48, Tryd.ntmps48
  go_wp2_with fail
  refine C.out.mono ?_
  rintro e w' ⟨rfl, hx⟩
  have HX := Lib.hid hx
  clear hx
  go_wp2_with fail
  go_ret
  exact ⟨by rw [← HQ.out]; rfl, HX.out⟩
end Go.Proofs.YtkdckjafhaadiaaDoor.P
/- Boxed variables of several cells. (Blk of Rf, for chapters without iterators.) -/
set_option linter.unusedSimpArgs false
set_option linter.unusedVariables false
namespace Go.Proofs.YtkdckjafhaadiaaDoor.P
open Go Go.RowKit

/-- A variable of several cells. -/
def Blk (W : World) (B : Nat) (t : TypeId) (vs : List Value) : Prop := W.heap[B]? = some (.cells vs.toArray t (0, 0))
theorem Blk.lt {W : World} {B : Nat} {t : TypeId} {vs : List Value} (h : Blk W B t vs) : B < W.heap.size := (Array.getElem?_eq_some_iff.1 h).1
theorem Blk.cell {W : World} {B : Nat} {t : TypeId} {vs : List Value} (h : Blk W B t vs) (i : Nat) (v : Value) (hi : vs[i]? = some v) : W.cell? ⟨B, i, none⟩ = some v := by
  simp [World.cell?, show W.heap[B]? = _ from h, hi]
theorem Blk.frozen {W : World} {B : Nat} {t : TypeId} {vs : List Value} (h : Blk W B t vs) (i : Nat) : W.frozen? ⟨B, i, none⟩ = false := by simp [World.frozen?, show W.heap[B]? = _ from h]
theorem Blk.new (W : World) (t : TypeId) (vs : List Value) : Blk (W.alloc (.cells vs.toArray t)) W.heap.size t vs := World.alloc_heap_new W _
theorem Blk.alloc {W : World} {B : Nat} {t : TypeId} {vs : List Value} (h : Blk W B t vs) (o : Obj) : Blk (W.alloc o) B t vs := ((World.grownBy_alloc W o none).block B h.lt (by simp)).trans h
theorem Blk.set {W : World} {B : Nat} {t : TypeId} {vs : List Value} (h : Blk W B t vs) (i : Nat) (v : Value) : Blk (W.setCell ⟨B, i, none⟩ v) B t (vs.set i v) := by
  obtain ⟨hlt, hk⟩ := Array.getElem?_eq_some_iff.1 h
  show (W.heap.modify B _)[B]? = _
  rw [Array.getElem?_eq_getElem (by rw [Array.size_modify]; exact hlt), Array.getElem_modify_self, hk]
  simp
theorem Blk.other {W : World} {B B' : Nat} {t : TypeId} {vs : List Value} (h : Blk W B t vs) (hne : B ≠ B') (i : Nat) (v : Value) : Blk (W.setCell ⟨B', i, none⟩ v) B t vs :=
  (Below.heap_setCell W ⟨B', i, none⟩ v B hne).trans h
theorem Blk.below {W W' : World} {B n : Nat} {t : TypeId} {vs : List Value} (h : Blk W B t vs) (hb : Below n W W') (hn : B < n) : Blk W' B t vs := (hb.block B hn).trans h
theorem Blk.drew {W : World} {B : Nat} {t : TypeId} {vs : List Value} (h : Blk W B t vs) : Blk W.drew B t vs := h
theorem Blk.grown {W W' : World} {B : Nat} {r : Option Nat} {t : TypeId} {vs : List Value} (h : Blk W B t vs) (hg : W.grownBy W' r) (hn : some B ≠ r) : Blk W' B t vs := (hg.block B h.lt hn).trans h
/-- A box that a walk has just laid, and what is known of the world. -/
theorem Blk.box (W : World) (t : TypeId) (vs : List Value) : Blk (W.alloc (.cells vs.toArray t)) W.heap.size t vs ∧ (W.alloc (.cells vs.toArray t)).heap.size = W.heap.size + 1 ∧ Below W.heap.size W (W.alloc (.cells vs.toArray t)) :=
  ⟨Blk.new W t vs, World.size_alloc _ _, (Below.refl _ W).alloc (Nat.le_refl _) _⟩
end Go.Proofs.YtkdckjafhaadiaaDoor.P
/- The group, told over whole numbers (made by pick.py out of Pg, Lg1, Lg2 of chapter 08 and PbA, PbE: what these chapters reach). -/
set_option linter.unusedSimpArgs false
set_option linter.unusedVariables false
namespace Go.Proofs.YtkdckjafhaadiaaDoor.P
open Go Go.RowKit Go.Proofs.YtkdckjafhaadiaaDoorW.PrintWords Go.Proofs.YtkdckjafhaadiaaDoorW.PrintLast Go.Proofs.YtkdckjafhaadiaaDoorW.PrintMore
/-- A power modulo m. -/
def pwM (m : Nat) (a x : Int) : Int := ((a.toNat ^ x.toNat % m : Nat) : Int)
/-- A power modulo P. -/
def pwZ (a x : Int) : Int := pwM Nt.P a x
theorem pwM_lt (m : Nat) (hm : 0 < m) (a x : Int) : 0 ≤ pwM m a x ∧ pwM m a x < m := by
  unfold pwM
  have := Nat.mod_lt (a.toNat ^ x.toNat) hm
  omega
theorem pwZ_lt (a x : Int) : 0 ≤ pwZ a x ∧ pwZ a x < 2147483579 := pwM_lt Nt.P (by decide) a x
theorem tmod_nat (a b : Int) (ha : 0 ≤ a) (hb : 0 < b) : Int.tmod a b = a % b := by rw [Int.tmod_eq_emod_of_nonneg ha]
theorem mul_lt31 {a b : Int} (ha : 0 ≤ a) (ha1 : a < 2147483648) (hb : 0 ≤ b) (hb1 : b < 2147483648) : 0 ≤ a * b ∧ a * b < 4611686018427387904 := by
  refine ⟨Int.mul_nonneg ha hb, ?_⟩
  have h1 : a * b ≤ 2147483647 * b := Int.mul_le_mul_of_nonneg_right (by omega) hb
  omega
theorem wrap_id {a : Int} (h0 : -9223372036854775808 ≤ a) (h1 : a ≤ 9223372036854775807) : wrap64 a = a := by unfold wrap64; omega
theorem mul_mod {a b m : Int} (ha : 0 ≤ a) (ha1 : a < 2147483648) (hb : 0 ≤ b) (hb1 : b < 2147483648) (hm : 0 < m) : Int.tmod (wrap64 (a * b)) m = a * b % m := by
  obtain ⟨h0, h1⟩ := mul_lt31 ha ha1 hb hb1
  rw [wrap_id (by omega) (by omega), tmod_nat _ _ h0 hm]
/-- One round of a power by squaring, over natural numbers. -/
theorem pw_round (m a x o : Nat) : (if x % 2 = 1 then o * a % m else o) * (a * a % m) ^ (x / 2) % m = o * a ^ x % m := by
  have e : a ^ x = a ^ (x % 2) * (a * a) ^ (x / 2) := by
    rw [← Nat.pow_two, ← Nat.pow_mul, ← Nat.pow_add, Nat.mod_add_div]
  rw [Nat.mul_mod, ← Nat.pow_mod, ← Nat.mul_mod]
  split
  · next h1 => rw [e, h1, Nat.pow_one, Nat.mul_mod, Nat.mod_mod, ← Nat.mul_mod, Nat.mul_assoc]
  · next h1 => rw [e, show x % 2 = 0 from by omega, Nat.pow_zero, Nat.one_mul]
theorem powZ_nat : ∀ (k a x o : Nat), a < 2147483579 → o < 2147483579 → x < 2 ^ k → powZ k (a : Int) (x : Int) (o : Int) = ((o * a ^ x % 2147483579 : Nat) : Int)
  | 0, a, x, o, ha, ho, hx => by
    obtain rfl : x = 0 := by simpa using hx
    simp [powZ, Nat.mod_eq_of_lt ho]
  | k + 1, a, x, o, ha, ho, hx => by
    unfold powZ
    by_cases h0 : x = 0
    · subst h0
      rw [if_neg (by omega), Nat.pow_zero, Nat.mul_one, Nat.mod_eq_of_lt ho]
    · rw [if_pos (by omega)]
      have e1 : mulP (a : Int) (a : Int) = ((a * a % 2147483579 : Nat) : Int) := by
        unfold mulP
        rw [mul_mod (by omega) (by omega) (by omega) (by omega) (by omega)]
        simp
      have e2 : mulP (o : Int) (a : Int) = ((o * a % 2147483579 : Nat) : Int) := by
        unfold mulP
        rw [mul_mod (by omega) (by omega) (by omega) (by omega) (by omega)]
        simp
      have e3 : (if (x : Int) % 2 = 1 then mulP (o : Int) (a : Int) else (o : Int)) = ((if x % 2 = 1 then o * a % 2147483579 else o : Nat) : Int) := by
        rw [e2]
        by_cases h1 : x % 2 = 1
        · rw [if_pos (by omega), if_pos h1]
        · rw [if_neg (by omega), if_neg h1]
      have e4 : ((x : Int) / 2) = ((x / 2 : Nat) : Int) := by omega
      rw [e1, e3, e4, powZ_nat k _ _ _ (Nat.mod_lt _ (by decide)) (by split; exact Nat.mod_lt _ (by decide); exact ho) (by rw [Nat.pow_succ] at hx; omega), pw_round]
theorem power_f (a x : Int) (ha : 0 ≤ a) (ha1 : a < 2147483579) (hx : 0 ≤ x) (hx1 : x < 2147483648) : group_power.f a x = some (pwZ a x) := by
  unfold group_power.f
  rw [if_pos (by omega)]
  obtain ⟨a, rfl⟩ := Int.eq_ofNat_of_zero_le ha
  obtain ⟨x, rfl⟩ := Int.eq_ofNat_of_zero_le hx
  have h := powZ_nat 64 a x 1 (by omega) (by decide) (by omega)
  rw [Nat.one_mul] at h
  exact congrArg some h
theorem refPower_l0 (m : Nat) (hm : m < 2147483648) : ∀ (d k a x o : Nat), a < m → o < m → x < 2 ^ d → d < k → x < 2147483648 → cohousingref08_Power.l0 k (a : Int) (x : Int) (m : Int) (o : Int) = some ((o * a ^ x % m : Nat) : Int)
  | d, 0, a, x, o, ha, ho, hx, hk, hb => by omega
  | 0, k + 1, a, x, o, ha, ho, hx, hk, hb => by
    obtain rfl : x = 0 := by simpa using hx
    simp only [cohousingref08_Power.l0]
    rw [if_neg (by omega), Nat.pow_zero, Nat.mul_one, Nat.mod_eq_of_lt ho]
  | d + 1, k + 1, a, x, o, ha, ho, hx, hk, hb => by
    by_cases h0 : x = 0
    · subst h0
      simp only [cohousingref08_Power.l0]
      rw [if_neg (by omega), Nat.pow_zero, Nat.mul_one, Nat.mod_eq_of_lt ho]
    · have e1 : Int.tmod (wrap64 ((a : Int) * (a : Int))) (m : Int) = ((a * a % m : Nat) : Int) := by
        rw [mul_mod (by omega) (by omega) (by omega) (by omega) (by omega)]; simp
      have e2 : Int.tmod (wrap64 ((o : Int) * (a : Int))) (m : Int) = ((o * a % m : Nat) : Int) := by
        rw [mul_mod (by omega) (by omega) (by omega) (by omega) (by omega)]; simp
      have e3 : wrap64 (Int.tdiv (x : Int) 2) = ((x / 2 : Nat) : Int) := by
        have hxx : x < 2 ^ (d + 1) := hx
        have hd : (Int.tdiv (x : Int) 2) = ((x / 2 : Nat) : Int) := by
          rw [Int.tdiv_eq_ediv_of_nonneg (by omega)]; omega
        rw [hd]
        exact wrap_id (by omega) (by omega)
      have ih := fun o' ho' => refPower_l0 m hm d k (a * a % m) (x / 2) o' (Nat.mod_lt _ (by omega)) ho' (by rw [Nat.pow_succ] at hx; omega) (by omega) (by omega)
      simp only [cohousingref08_Power.l0]
      rw [if_pos (by omega), e1, e2, e3, tmod_nat _ _ (by omega) (by omega)]
      have hr := pw_round m a x o
      by_cases h1 : x % 2 = 1
      · rw [if_pos (by omega), if_neg (by omega), ih _ (Nat.mod_lt _ (by omega))]
        rw [if_pos h1] at hr
        rw [hr]
      · rw [if_neg (by omega), if_neg (by omega), ih _ ho]
        rw [if_neg h1] at hr
        rw [hr]
theorem refPower_f (m : Nat) (hm : m < 2147483648) (h1m : 1 < m) (a x : Int) (ha : 0 ≤ a) (ha1 : a < m) (hx : 0 ≤ x) (hx1 : x < 2147483648) (k : Nat) (hk : 40 ≤ k) : cohousingref08_Power.f k a x (m : Int) = some (pwM m a x) := by
  unfold cohousingref08_Power.f
  obtain ⟨a, rfl⟩ := Int.eq_ofNat_of_zero_le ha
  obtain ⟨x, rfl⟩ := Int.eq_ofNat_of_zero_le hx
  have h := refPower_l0 m hm 31 k a x 1 (by omega) h1m (by omega) (by omega) (by omega)
  rw [Nat.one_mul] at h
  exact h
theorem refPower_P (a x : Int) (ha : 0 ≤ a) (ha1 : a < 2147483579) (hx : 0 ≤ x) (hx1 : x < 2147483648) (k : Nat) (hk : 40 ≤ k) : cohousingref08_Power.f k a x 2147483579 = some (pwZ a x) :=
  refPower_f Nt.P (by decide) (by decide) a x ha ha1 hx hx1 k hk
theorem refPower_Q (a x : Int) (ha : 0 ≤ a) (ha1 : a < 1073741789) (hx : 0 ≤ x) (hx1 : x < 2147483648) (k : Nat) (hk : 40 ≤ k) : cohousingref08_Power.f k a x 1073741789 = some (pwM Nt.Q a x) :=
  refPower_f Nt.Q (by decide) (by decide) a x ha ha1 hx hx1 k hk
/-- An element of the group. -/
def memB (a : Int) : Bool := decide (0 < a) && (decide (a < 2147483579) && pwZ a 1073741789 == 1)
def expB (x : Int) : Bool := decide (0 ≤ x) && decide (x < 1073741789)
def secB (x : Int) : Bool := decide (1 ≤ x) && decide (x < 1073741789)
def baseB (a : Int) : Bool := memB a && a != 1
theorem memB_lt {a : Int} (h : memB a = true) : 0 < a ∧ a < 2147483579 := by
  simp only [memB, Bool.and_eq_true, decide_eq_true_eq] at h
  exact ⟨h.1, h.2.1⟩
theorem expB_lt {x : Int} (h : expB x = true) : 0 ≤ x ∧ x < 1073741789 := by
  simpa only [expB, Bool.and_eq_true, decide_eq_true_eq] using h
theorem secB_lt {x : Int} (h : secB x = true) : 1 ≤ x ∧ x < 1073741789 := by
  simpa only [secB, Bool.and_eq_true, decide_eq_true_eq] using h
theorem member_f (a : Int) : group_Member.f a = some (memB a) := by
  unfold group_Member.f memB
  by_cases h0 : 0 < a
  · by_cases h1 : a < 2147483579
    · rw [if_pos h0, if_pos h1, power_f a _ (by omega) h1 (by omega) (by omega)]
      simp [h0, h1]
    · rw [if_pos h0, if_neg h1]; simp [h1]
  · rw [if_neg h0]; simp [h0]
theorem fits_f (x l : Int) : group_exponent_fits.f x l = some (decide (l ≤ x) && decide (x < 1073741789)) := by
  unfold group_exponent_fits.f
  by_cases h : l ≤ x
  · rw [if_pos h]; simp [h]
  · rw [if_neg h]; simp [h]
theorem fits0 (x : Int) : group_exponent_fits.f x 0 = some (expB x) := fits_f x 0
theorem fits1 (x : Int) : group_exponent_fits.f x 1 = some (secB x) := fits_f x 1
def mulV (a b : Int) : Int × Int := if memB a && memB b then (a * b % 2147483579, 0) else (0, 1)
theorem mul_f (a b : Int) : group_Mul.f a b = some (mulV a b) := by
  unfold group_Mul.f mulV
  rw [member_f, member_f]
  simp only [Option.bind_some]
  cases ha : memB a with
  | false => simp
  | true =>
    cases hb : memB b with
    | false => simp
    | true =>
      have h1 := memB_lt ha
      have h2 := memB_lt hb
      rw [mul_mod (by omega) (by omega) (by omega) (by omega) (by omega)]
      simp
def expV (a x : Int) : Int × Int := if memB a && expB x then (pwZ a x, 0) else (0, 1)
theorem exp_f (a x : Int) : group_Exp.f a x = some (expV a x) := by
  unfold group_Exp.f expV
  rw [member_f, fits0]
  simp only [Option.bind_some]
  cases ha : memB a with
  | false => simp
  | true =>
    cases hb : expB x with
    | false => simp
    | true =>
      have h1 := memB_lt ha
      have h2 := expB_lt hb
      rw [power_f a x (by omega) (by omega) (by omega) (by omega)]
      simp
def comV (h v b : Int) : Int × Int := if baseB h && (expB v && expB b) then (pwZ 4 v * pwZ h b % 2147483579, 0) else (0, 1)
theorem mul_pw (a x b y : Int) : Int.tmod (wrap64 (pwZ a x * pwZ b y)) 2147483579 = pwZ a x * pwZ b y % 2147483579 := by
  have h1 := pwZ_lt a x
  have h2 := pwZ_lt b y
  exact mul_mod (by omega) (by omega) (by omega) (by omega) (by omega)
theorem commit_f (h v b : Int) (k : Nat) (hk : 50 ≤ k) : group_Commit.f k h v b = some (comV h v b) := by
  obtain ⟨k, rfl⟩ : ∃ m, k = m + 1 := ⟨k - 1, by omega⟩
  unfold group_Commit.f comV baseB
  simp only [member_f, fits0, Option.bind_some, group_Commit.j0]
  by_cases h1 : h = 1
  · rw [if_pos h1]; simp [h1]
  · rw [if_neg h1]
    have hne : (h != 1) = true := by simp [h1]
    rw [hne]
    cases ha : memB h with
    | false => simp
    | true =>
      cases hv : expB v with
      | false => simp
      | true =>
        cases hb : expB b with
        | false => simp
        | true =>
          have q1 := memB_lt ha
          have q2 := expB_lt hv
          have q3 := expB_lt hb
          rw [power_f 4 v (by omega) (by omega) (by omega) (by omega), power_f h b (by omega) (by omega) (by omega) (by omega)]
          simp [mul_pw]
theorem wf_u64 {a : Int} (h : (Lit.int .u64 a).wf = true) : 0 ≤ a ∧ a < 18446744073709551616 := by
  simp [Lit.wf, IntKind.min, IntKind.max, IntKind.bits, IntKind.signed] at h
  omega
theorem wf_i64 {a : Int} (h : (Lit.int .i64 a).wf = true) : -9223372036854775808 ≤ a ∧ a ≤ 9223372036854775807 := by
  simp [Lit.wf, IntKind.min, IntKind.max, IntKind.bits, IntKind.signed] at h
  omega
theorem pwZ_nat (a x : Nat) : pwZ (a : Int) (x : Int) = ((a ^ x % Nt.P : Nat) : Int) := by
  unfold pwZ pwM
  rw [Int.toNat_natCast, Int.toNat_natCast]
theorem memB_nat (a : Nat) : memB (a : Int) = true ↔ a < 2147483579 ∧ Nt.El a := by
  unfold memB
  rw [show (1073741789 : Int) = ((Nt.Q : Nat) : Int) from rfl, pwZ_nat a Nt.Q]
  simp only [Bool.and_eq_true, decide_eq_true_eq, beq_iff_eq]
  constructor
  · rintro ⟨h0, h1, h2⟩
    exact ⟨by omega, by unfold Nt.El; exact Int.ofNat.inj h2⟩
  · rintro ⟨h1, h2⟩
    have hp := h2.pos
    rw [Nat.mod_eq_of_lt (show a < Nt.P from h1)] at hp
    exact ⟨by omega, by omega, congrArg Int.ofNat h2⟩
theorem modP_lt (x : Nat) : x % Nt.P < 2147483579 := Nat.mod_lt _ (by decide)
theorem memB_mod {a : Nat} (h : Nt.El a) : memB ((a % Nt.P : Nat) : Int) = true :=
  (memB_nat _).2 ⟨Nat.mod_lt _ (by decide), h.mod⟩
theorem expB_nat (x : Nat) : expB (x : Int) = true ↔ x < 1073741789 := by
  simp only [expB, Bool.and_eq_true, decide_eq_true_eq]; omega
theorem mulV_nat {a b : Nat} (ha : a < 2147483579) (hb : b < 2147483579) (h : Nt.El a) (k : Nt.El b) : mulV (a : Int) (b : Int) = (((a * b % Nt.P : Nat) : Int), 0) := by
  unfold mulV
  rw [(memB_nat a).2 ⟨ha, h⟩, (memB_nat b).2 ⟨hb, k⟩]
  simp only [Bool.and_self, if_true, Int.natCast_emod, Int.natCast_mul]
  rfl
theorem expV_nat {a x : Nat} (ha : a < 2147483579) (h : Nt.El a) (hx : x < 1073741789) : expV (a : Int) (x : Int) = (((a ^ x % Nt.P : Nat) : Int), 0) := by
  unfold expV
  rw [(memB_nat a).2 ⟨ha, h⟩, (expB_nat x).2 hx, pwZ_nat]
  rfl
theorem baseB_nat {a : Nat} (ha : a < 2147483579) (h : Nt.El a) (h1 : a ≠ 1) : baseB (a : Int) = true := by
  unfold baseB
  rw [(memB_nat a).2 ⟨ha, h⟩, Bool.true_and, bne_iff_ne]
  omega
theorem comV_nat {h x r : Nat} (hh : h < 2147483579) (hE : Nt.El h) (h1 : h ≠ 1) (hx : x < 1073741789) (hr : r < 1073741789) : comV (h : Int) (x : Int) (r : Int) = (((4 ^ x * h ^ r % Nt.P : Nat) : Int), 0) := by
  unfold comV
  rw [baseB_nat hh hE h1, (expB_nat x).2 hx, (expB_nat r).2 hr]
  simp only [Bool.and_self, if_true]
  have e := pwZ_nat 4 x
  rw [show ((4 : Nat) : Int) = 4 from rfl] at e
  rw [e, pwZ_nat, Nat.mul_mod (4 ^ x)]
  rfl
def sec (n : Int) : Nat := 1 + (n % 1073741788).toNat
theorem sec_lt (n : Int) : 0 < sec n ∧ sec n < 1073741789 := by unfold sec; omega
theorem four_ne : 4 % Nt.P ≠ 1 := by decide
/-- The key that all know, of a secret. -/
def pub (n : Nat) : Nat := 4 ^ n % Nt.P
theorem pub_lt (n : Nat) : pub n < 2147483579 := Nat.mod_lt _ (by decide)
theorem pub_el (n : Nat) : Nt.El (pub n) := (Nt.G_el.pow _).mod
theorem pub_ne {n : Nat} (h0 : 0 < n) (h1 : n < 1073741789) : pub n ≠ 1 := Nt.G_el.pow_ne_one four_ne h0 h1
theorem refSecretOf_f (a : Int) (h : (Lit.int .u64 a).wf = true) : cohousingref08_Secret.f a = some (sec a : Int) := by
  obtain ⟨h0, h1⟩ := wf_u64 h
  unfold cohousingref08_Secret.f sec
  rw [tmod_nat _ _ h0 (by omega), wrap_id (a := a % 1073741788) (by omega) (by omega), wrap_id (by omega) (by omega)]
  congr 1
  omega
theorem refPub_f (n : Nat) (h : n < 1073741789) (k : Nat) (hk : 40 ≤ k) : cohousingref08_Power.f k 4 (n : Int) 2147483579 = some (pub n : Int) := by
  rw [refPower_P 4 _ (by omega) (by omega) (by omega) (by omega) k hk]
  exact congrArg some (pwZ_nat 4 n)
theorem sum_mod {x y : Nat} (hx : x < 1073741789) (hy : y < 1073741789) : Int.tmod (wrap64 ((x : Int) + (y : Int))) 1073741789 = (((x + y) % Nt.Q : Nat) : Int) := by
  rw [wrap_id (by omega) (by omega), tmod_nat _ _ (by omega) (by omega)]
  rfl
theorem prod_mod {x y : Nat} (hx : x < 1073741789) (hy : y < 1073741789) : Int.tmod (wrap64 ((x : Int) * (y : Int))) 1073741789 = ((x * y % Nt.Q : Nat) : Int) := by
  rw [mul_mod (by omega) (by omega) (by omega) (by omega) (by omega)]
  rfl
theorem Q_pos : 0 < Nt.Q := by decide
theorem mod_Q_lt (x : Nat) : x % Nt.Q < 1073741789 := Nat.mod_lt _ Q_pos
/-- 'Option.bind_some', not by computation (the kernel may compute the wrong side). -/
theorem obs {α β : Type} (a : α) (f : α → Option β) : (some a).bind f = f a := (Option.bind_some a f).trans (Eq.refl _)
/-- An element is a natural number. -/
theorem memB_el {a : Int} (h : memB a = true) : ∃ n : Nat, a = n ∧ n < 2147483579 ∧ Nt.El n := by
  have := memB_lt h
  obtain ⟨n, rfl⟩ := Int.eq_ofNat_of_zero_le (show 0 ≤ a by omega)
  exact ⟨n, rfl, (memB_nat n).1 h⟩
theorem expB_el {x : Int} (h : expB x = true) : ∃ n : Nat, x = n ∧ n < Nt.Q := by
  have := expB_lt h
  obtain ⟨n, rfl⟩ := Int.eq_ofNat_of_zero_le (show 0 ≤ x by omega)
  exact ⟨n, rfl, by unfold Nt.Q; omega⟩
/-- Modulo Q, from 0 on. -/
theorem refRest_f (n : Int) (h0 : -4611686018427387904 ≤ n) (h1 : n ≤ 4611686018427387904) : cohousingref08_Rest.f n = some (n % 1073741789) := by
  unfold cohousingref08_Rest.f
  have hb1 : -1073741789 < Int.tmod n 1073741789 := Int.lt_tmod_of_pos _ (by omega)
  have hb2 : Int.tmod n 1073741789 < 1073741789 := Int.tmod_lt_of_pos _ (by omega)
  rw [wrap_id (by omega) (by omega), tmod_nat _ _ (by omega) (by omega)]
  congr 1
  have e : Int.tmod n 1073741789 = n - 1073741789 * Int.tdiv n 1073741789 := by
    have := Int.mul_tdiv_add_tmod n 1073741789
    omega
  rw [e]
  omega
theorem refOver_f (a b : Int) (ha : 0 ≤ a) (ha1 : a < 1073741789) (hb : 0 ≤ b) (hb1 : b < 1073741789) (k : Nat) (hk : 40 ≤ k) : cohousingref08_Over.f k a b = some (((a.toNat * b.toNat ^ (Nt.Q - 2) % Nt.Q : Nat) : Int)) := by
  unfold cohousingref08_Over.f
  rw [refPower_Q b _ hb hb1 (by omega) (by omega) k hk]
  simp only [Option.bind_some]
  have hp := pwM_lt Nt.Q Q_pos b 1073741787
  have hq : (Nt.Q : Int) = 1073741789 := rfl
  rw [mul_mod ha (by omega) hp.1 (by omega) (by omega)]
  congr 1
  obtain ⟨a, rfl⟩ := Int.eq_ofNat_of_zero_le ha
  unfold pwM
  rw [Int.toNat_natCast, ← hq, ← Int.natCast_mul, ← Int.natCast_emod]
  congr 1
  rw [Nat.mul_mod_mod]
  rfl
end Go.Proofs.YtkdckjafhaadiaaDoor.P
/- Statements, in plain words: lines, commitments, leaves, what the functions of package statement answer. -/
set_option linter.unusedSimpArgs false
set_option linter.unusedVariables false
namespace Go.Proofs.YtkdckjafhaadiaaDoor.P
open Go Go.RowKit Go.Proofs.YtkdckjafhaadiaaDoorW.PrintWords Go.Proofs.YtkdckjafhaadiaaDoorW.PrintLast Go.Proofs.YtkdckjafhaadiaaDoorW.PrintMore

def btw (n lo hi : Int) : Bool := decide (lo ≤ n) && decide (n ≤ hi)
def homeB (n : Int) : Bool := btw n 1 64
def monthB (n : Int) : Bool := btw n 0 1199
def keyB (h : Int) : Bool := h != 1 && memB h
def lineB (x : S50) : Bool := btw x.f0 0 99 && (btw x.f1 (-1000000000) 1000000000 && btw x.f2 0 1073741788)
/-- It rises from each element to the next one. -/
def riseB {α : Type} (f : α → Int) : List α → Bool
  | x :: y :: l => decide (f x < f y) && riseB f (y :: l)
  | _ => true
def linesB (l : List S50) : Bool := decide (l.length ≤ 64) && (l.all lineB && riseB S50.f0 l)
/-- The commitment to a line. -/
def cmI (h : Int) (x : S50) : Int := (comV h (Int.tmod (wrap64 (x.f1 + 1073741789)) 1073741789) x.f2).1
def cmL (h : Int) (l : List S50) : List Int := l.map (cmI h)
def okS (h : Int) (x : S45) : Bool := homeB x.f0 && (keyB x.f1 && (x.f1 == h && (decide (x.f2.length ≤ 64) && x.f2.all memB)))
def allB (l : List S45) : Bool := btw l.length 1 64 && (l.all (okS (rd_T45 l 0).f1) && riseB S45.f0 l)
/-- The leaf of a household. -/
def lfI (m : Int) (x : S45) : Int := sumB (txt (m :: x.f0 :: x.f1 :: x.f2))
def lfL (m : Int) (l : List S45) : List Int := l.map (lfI m)
def sealV (h who : Int) (l : List S50) : Int × Int × List Int × Int := if keyB h && (homeB who && linesB l) then (who, h, cmL h l, 0) else (0, 0, [], 1)
end Go.Proofs.YtkdckjafhaadiaaDoor.P
/- Statements: what commitments to lines are, as powers. -/
set_option linter.unusedSimpArgs false
set_option linter.unusedVariables false
namespace Go.Proofs.YtkdckjafhaadiaaDoor.P
open Go Go.RowKit Go.Proofs.YtkdckjafhaadiaaDoorW.PrintWords Go.Proofs.YtkdckjafhaadiaaDoorW.PrintLast Go.Proofs.YtkdckjafhaadiaaDoorW.PrintMore

theorem key_nat {h : Int} (hk : keyB h = true) : ∃ n : Nat, h = (n : Int) ∧ n < 2147483579 ∧ Nt.El n ∧ n ≠ 1 := by
  simp only [keyB, Bool.and_eq_true, bne_iff_ne] at hk
  obtain ⟨n, rfl, h1, h2⟩ := memB_el hk.2
  exact ⟨n, rfl, h1, h2, fun e => hk.1 (by rw [e]; rfl)⟩
def cN (x : S50) : Nat := (x.f1 % 1073741789).toNat
def bN (x : S50) : Nat := x.f2.toNat
theorem line_parts {x : S50} (h : lineB x = true) : 0 ≤ x.f0 ∧ x.f0 ≤ 99 ∧ -1000000000 ≤ x.f1 ∧ x.f1 ≤ 1000000000 ∧ 0 ≤ x.f2 ∧ x.f2 ≤ 1073741788 := by
  simp only [lineB, btw, Bool.and_eq_true, decide_eq_true_eq] at h
  omega
theorem resid_eq {c : Int} (h0 : -1000000000 ≤ c) (h1 : c ≤ 1000000000) : Int.tmod (wrap64 (c + 1073741789)) 1073741789 = (((c % 1073741789).toNat : Nat) : Int) := by
  rw [wrap_id (by omega) (by omega), tmod_nat _ _ (by omega) (by omega)]
  omega
theorem cN_lt (x : S50) : cN x < 1073741789 := by unfold cN; omega
theorem bN_lt {x : S50} (h : lineB x = true) : bN x < 1073741789 := by
  have := line_parts h
  unfold bN
  omega
theorem com_line {n : Nat} (h1 : n < 2147483579) (h2 : Nt.El n) (h3 : n ≠ 1) {x : S50} (hx : lineB x = true) : comV (n : Int) (Int.tmod (wrap64 (x.f1 + 1073741789)) 1073741789) x.f2 = (((4 ^ cN x * n ^ bN x % Nt.P : Nat) : Int), 0) := by
  obtain ⟨a, b, c, d, e, f⟩ := line_parts hx
  rw [resid_eq c d]
  have hm : x.f2 = ((bN x : Nat) : Int) := by unfold bN; omega
  rw [hm, comV_nat h1 h2 h3 (by omega) (bN_lt hx)]
  rfl
theorem cmI_nat {n : Nat} (h1 : n < 2147483579) (h2 : Nt.El n) (h3 : n ≠ 1) {x : S50} (hx : lineB x = true) : cmI (n : Int) x = ((4 ^ cN x * n ^ bN x % Nt.P : Nat) : Int) := by
  unfold cmI
  rw [com_line h1 h2 h3 hx]
theorem cm_mem {h : Int} (hk : keyB h = true) {x : S50} (hx : lineB x = true) : memB (cmI h x) = true := by
  obtain ⟨n, rfl, h1, h2, h3⟩ := key_nat hk
  rw [cmI_nat h1 h2 h3 hx]
  exact memB_mod ((Nt.G_el.pow _).mul (h2.pow _))
theorem cmL_mem {h : Int} (hk : keyB h = true) {l : List S50} (hl : linesB l = true) : (cmL h l).all memB = true := by
  simp only [linesB, Bool.and_eq_true] at hl
  unfold cmL
  rw [List.all_map]
  refine List.all_eq_true.2 fun x hx => ?_
  exact cm_mem hk (List.all_eq_true.1 hl.2.1 x hx)
theorem cmL_len (h : Int) (l : List S50) : (cmL h l).length = l.length := by simp [cmL]
/-- Equal commitments of lines with equal blinds: equal amounts; with equal amounts: equal blinds. -/

theorem mul_cancel {a b c : Nat} (hE : Nt.El c) (h : a * c % Nt.P = b * c % Nt.P) : a % Nt.P = b % Nt.P := by
  have e1 : a * c ^ Nt.Q % Nt.P = b * c ^ Nt.Q % Nt.P := by
    rw [show Nt.Q = (Nt.Q - 1) + 1 from rfl, Nat.pow_succ, Nat.mul_comm (c ^ _) c, ← Nat.mul_assoc, ← Nat.mul_assoc, Nat.mul_mod, h, ← Nat.mul_mod]
  have e2 : ∀ x, x * c ^ Nt.Q % Nt.P = x % Nt.P := fun x => by
    rw [Nat.mul_mod, show c ^ Nt.Q % Nt.P = 1 from hE, Nat.mul_one, Nat.mod_mod]
  rw [e2, e2] at e1
  exact e1
theorem cm_cents {n c d b : Nat} (h2 : Nt.El n) (hc : c < Nt.Q) (hd : d < Nt.Q) (h : 4 ^ c * n ^ b % Nt.P = 4 ^ d * n ^ b % Nt.P) : c = d := by
  have e := Nt.G_el.inj four_ne (mul_cancel (h2.pow b) h)
  rwa [Nat.mod_eq_of_lt hc, Nat.mod_eq_of_lt hd] at e
theorem cm_blind {n c b d : Nat} (h1 : n < Nt.P) (h2 : Nt.El n) (h3 : n ≠ 1) (hc : b < Nt.Q) (hd : d < Nt.Q) (h : 4 ^ c * n ^ b % Nt.P = 4 ^ c * n ^ d % Nt.P) : b = d := by
  rw [Nat.mul_comm, Nat.mul_comm (4 ^ c)] at h
  have e := h2.inj (by rw [Nat.mod_eq_of_lt h1]; exact h3) (mul_cancel (Nt.G_el.pow c) h)
  rwa [Nat.mod_eq_of_lt hc, Nat.mod_eq_of_lt hd] at e
/-- The product of commitments. -/
def sumN (f : S50 → Nat) (l : List S50) : Nat := (l.map f).sum
theorem prod_nat {n : Nat} (h1 : n < 2147483579) (h2 : Nt.El n) (h3 : n ≠ 1) : ∀ (l : List S50) (a b : Nat), l.all lineB = true → l.foldl (fun p x => p * cmI (n : Int) x % 2147483579) ((4 ^ a * n ^ b % Nt.P : Nat) : Int) = ((4 ^ (a + sumN cN l) * n ^ (b + sumN bN l) % Nt.P : Nat) : Int)
  | [], a, b, _ => rfl
  | x :: l, a, b, h => by
    simp only [List.all_cons, Bool.and_eq_true] at h
    have ih := prod_nat h1 h2 h3 l (a + cN x) (b + bN x) h.2
    rw [List.foldl_cons, cmI_nat h1 h2 h3 h.1]
    rw [show (((4 ^ a * n ^ b % Nt.P : Nat) : Int) * ((4 ^ cN x * n ^ bN x % Nt.P : Nat) : Int) % 2147483579) = ((4 ^ (a + cN x) * n ^ (b + bN x) % Nt.P : Nat) : Int) from ?_, ih]
    · simp only [sumN, List.map_cons, List.sum_cons, Nat.add_assoc]
    · rw [show ((2147483579 : Int)) = ((Nt.P : Nat) : Int) from rfl]
      have e : 4 ^ a * n ^ b % Nt.P * (4 ^ cN x * n ^ bN x % Nt.P) % Nt.P = 4 ^ (a + cN x) * n ^ (b + bN x) % Nt.P := by
        rw [← Nat.mul_mod, Nat.pow_add, Nat.pow_add]
        rw [show 4 ^ a * n ^ b * (4 ^ cN x * n ^ bN x) = 4 ^ a * 4 ^ cN x * (n ^ b * n ^ bN x) from by rw [Nat.mul_assoc, Nat.mul_left_comm (n ^ b), ← Nat.mul_assoc]]
      rw [← e]
      exact (Int.natCast_emod _ _).symm ▸ rfl
theorem sum_cents : ∀ (l : List S50), ((l.map S50.f1).sum % 1073741789) = (((sumN cN l % Nt.Q : Nat)) : Int)
  | [] => rfl
  | x :: l => by
    have ih := sum_cents l
    simp only [sumN, List.map_cons, List.sum_cons] at ih ⊢
    unfold cN at ih ⊢
    unfold Nt.Q at ih ⊢
    omega
theorem sum_blinds : ∀ (l : List S50), l.all lineB = true → (l.map S50.f2).sum = ((sumN bN l : Nat) : Int)
  | [], _ => rfl
  | x :: l, h => by
    simp only [List.all_cons, Bool.and_eq_true] at h
    have ih := sum_blinds l h.2
    have := line_parts h.1
    simp only [sumN, List.map_cons, List.sum_cons] at ih ⊢
    unfold bN at ih ⊢
    omega
/-- The product of the commitments is the commitment to the sums. -/
theorem prod_com {h : Int} (hk : keyB h = true) {l : List S50} (hl : l.all lineB = true) :
    comV h ((l.map S50.f1).sum % 1073741789) ((l.map S50.f2).sum % 1073741789) = (l.foldl (fun p x => p * cmI h x % 2147483579) 1, 0) := by
  obtain ⟨n, rfl, h1, h2, h3⟩ := key_nat hk
  have e := prod_nat h1 h2 h3 l 0 0 hl
  rw [Nat.zero_add, Nat.zero_add] at e
  rw [show (((4 ^ 0 * n ^ 0 % Nt.P : Nat)) : Int) = 1 from by rw [Nat.pow_zero, Nat.pow_zero]; rfl] at e
  rw [e, sum_cents l, sum_blinds l hl]
  rw [show (((sumN bN l : Nat) : Int) % 1073741789) = ((sumN bN l % Nt.Q : Nat) : Int) from rfl]
  rw [comV_nat h1 h2 h3 (mod_Q_lt _) (mod_Q_lt _)]
  rw [Nat.mul_mod, Nt.G_el.pow_mod, h2.pow_mod, ← Nat.mul_mod]
end Go.Proofs.YtkdckjafhaadiaaDoor.P
/- statement.isLines: which lists are lines. -/
set_option linter.unusedSimpArgs false
set_option linter.unusedVariables false
namespace Go.Proofs.YtkdckjafhaadiaaDoor.P
open Go Go.RowKit Go.Proofs.YtkdckjafhaadiaaDoorW.PrintWords Go.Proofs.YtkdckjafhaadiaaDoorW.PrintLast Go.Proofs.YtkdckjafhaadiaaDoorW.PrintMore Go.Proofs.YtkdckjafhaadiaaDoor.Ord

theorem between_f (n lo hi : Int) : statement_between.f n lo hi = some (btw n lo hi) := by
  unfold statement_between.f btw
  by_cases h : lo ≤ n
  · rw [if_pos h, decide_eq_true h, Bool.true_and]
  · rw [if_neg h, decide_eq_false h, Bool.false_and]
set_option maxHeartbeats 1000000 in
theorem odd_pred (x : S50) (W : World) : Calls Tryd.prog 53 #[.agg #[.int .i64 x.f0, .int .i64 x.f1, .int .i64 x.f2]] W fun e W' => e = .returned (.bool (!lineB x)) ∧ Below W.heap.size W W' := by
  have H0 := Lib.hid (fun W => statement_between.calls x.f0 0 99 _ W (between_f _ _ _))
  have H1 := Lib.hid (fun W => statement_between.calls x.f1 (-1000000000) 1000000000 _ W (between_f _ _ _))
  have H2 := Lib.hid (fun W => statement_between.calls x.f2 0 1073741788 _ W (between_f _ _ _))
  unfold lineB
  generalize btw x.f0 0 99 = b0 at *
  generalize btw x.f1 (-1000000000) 1000000000 = b1 at *
  generalize btw x.f2 0 1073741788 = b2 at *
  obtain ⟨x0, x1, x2⟩ := x
  simp only at *
  go_enter Tryd.func53, Tryd.ntmps53
  go_wp2_with fail
  obtain ⟨hx, hsz, hbw⟩ := Blk.box W 50 [Value.int IntKind.i64 x0, Value.int IntKind.i64 x1, Value.int IntKind.i64 x2]
  rw [show (List.toArray [Value.int IntKind.i64 x0, Value.int IntKind.i64 x1, Value.int IntKind.i64 x2]) = #[Value.int IntKind.i64 x0, Value.int IntKind.i64 x1, Value.int IntKind.i64 x2] from rfl] at hx hsz hbw
  generalize W.alloc (Obj.cells #[Value.int IntKind.i64 x0, Value.int IntKind.i64 x1, Value.int IntKind.i64 x2] 50) = W1 at hx hsz hbw ⊢
  refine (H0.out W1).mono ?_
  rintro e w1 ⟨rfl, hd⟩
  have hx1 := hx.below hd.below hx.lt
  have HB := Lib.hid (show Below W.heap.size W w1 from hbw.trans (Below.mono hd.below (by rw [hsz]; omega)))
  have HX := Lib.hid hx1
  have c1 := hx1.cell 1 _ rfl
  have c2 := hx1.cell 2 _ rfl
  clear hd hbw hsz hx hx1
  cases b0 with
  | false =>
    go_wp2_with fail
    go_ret
    exact ⟨rfl, HB.out⟩
  | true =>
    go_wp2_with fail
    refine (H1.out w1).mono ?_
    rintro e w2 ⟨rfl, hd⟩
    have hx1 := HX.out.below hd.below HX.out.lt
    have HB2 := Lib.hid (show Below W.heap.size W w2 from HB.out.trans (Below.mono hd.below HB.out.size))
    have d2 := hx1.cell 2 _ rfl
    clear hd hx1 c1 c2
    cases b1 with
    | false =>
      go_wp2_with fail
      go_ret
      exact ⟨rfl, HB2.out⟩
    | true =>
      go_wp2_with fail
      refine (H2.out w2).mono ?_
      rintro e w3 ⟨rfl, hd⟩
      have HB3 := Lib.hid (show Below W.heap.size W w3 from HB2.out.trans (Below.mono hd.below HB2.out.size))
      clear hd d2
      go_wp2_with fail
      go_ret
      exact ⟨by simp, HB3.out⟩
set_option maxHeartbeats 1000000 in
theorem rule_calls (x : S50) (W : World) : Calls Tryd.prog 56 #[.agg #[.int .i64 x.f0, .int .i64 x.f1, .int .i64 x.f2]] W fun e W' => e = .returned (.int .i64 x.f0) ∧ Below W.heap.size W W' := by
  go_enter Tryd.func56, Tryd.ntmps56
  go_wp2_with fail
  go_ret
  exact ⟨rfl, (Below.refl _ W).alloc (Nat.le_refl _) _⟩
set_option maxHeartbeats 2000000 in
theorem rise_L (l : List S50) (A : Option Addr) (c : Nat) (w : World) (hr : Kd.C k50 w A l.length l) :
    Calls Tryd.prog 55 #[.slice A l.length c, .func (.func 56) #[] #[]] w fun e w' => e = .returned (.bool (riseB S50.f0 l)) ∧ Below w.heap.size w w' := by
  have hl : l.length ≤ 9223372036854775807 := hr.2.1
  have HR := Lib.hid hr
  have HP := Lib.hid (fun x W => rule_calls x W)
  have eg : ∀ args w, (callFunc 56 args).run Tryd.prog w = .ok (.enter 56 args) w := enters_of Tryd.func56 (by kernel_rfl) rfl
  clear hr
  go_enter Tryd.func55, Tryd.ntmps55
  go_wp2_with fail
  go_loopw [5] (fun i wr => ∃ k : Nat, (k + 1 ≤ l.length ∨ k = 0) ∧ i = .int .i64 ((k + 1 : Nat) : Int) ∧ Hid (Below w.heap.size w wr) ∧ Hid (riseB S50.f0 (l.drop k) = riseB S50.f0 l)) (fun i _ => l.length - (intOf i).toNat)
  case atStart => exact ⟨0, Or.inr rfl, rfl, Below.refl _ _, rfl⟩
  case round =>
    obtain ⟨k, hk, rfl, hB, hno⟩ := hrel
    by_cases hlt : k + 1 < l.length
    · obtain ⟨x, hx⟩ : ∃ x, rd_T50 l (k : Int) = x := ⟨_, rfl⟩
      obtain ⟨y, hy⟩ : ∃ y, rd_T50 l ((k + 1 : Nat) : Int) = y := ⟨_, rfl⟩
      have hg : l[k] = x := (rd_getL (by omega)).symm.trans hx
      have hg2 : l[k + 1] = y := (rd_getL (by omega)).symm.trans hy
      have hd : l.drop k = x :: l.drop (k + 1) := by rw [List.drop_eq_getElem_cons (by omega), hg]
      have hd2 : l.drop (k + 1) = y :: l.drop (k + 1 + 1) := by rw [List.drop_eq_getElem_cons (by omega), hg2]
      have hs := hno.out
      rw [hd, hd2, riseB, ← hd2] at hs
      obtain ⟨ad, rfl, h0, h1, h2⟩ := at_T50 (Kd.C_below HR.out hB.out) (k : Int) (by omega) (by omega)
      obtain ⟨ad', e', h3, h4, h5⟩ := at_T50 (Kd.C_below HR.out hB.out) ((k + 1 : Nat) : Int) (by omega) (by omega)
      cases e'
      rw [hx] at h0 h1 h2
      rw [hy] at h3 h4 h5
      simp only [Int.toNat_natCast] at h0 h1 h2 h3 h4 h5
      have HS := Lib.hid hs
      have hw1 : IntKind.i64.wrap (k : Int) = (k : Int) := by rw [IntKind.wrap_i64]; omega
      have hk1 : (k : Int) < (l.length : Int) := by omega
      have HXY := Lib.hid (And.intro hx hy)
      clear hs hno hg hg2 hd hd2 hx hy
      have hS : ∀ W, Held (Below w.heap.size w) W → W.cell? (ad.add (k * 3)) = some (.int .i64 x.f0) ∧ W.cell? ⟨(ad.add (k * 3)).block, (ad.add (k * 3)).off + 1, none⟩ = some (.int .i64 x.f1) ∧ W.cell? ⟨(ad.add (k * 3)).block, (ad.add (k * 3)).off + 2, none⟩ = some (.int .i64 x.f2) ∧ W.cell? (ad.add ((k + 1) * 3)) = some (.int .i64 y.f0) ∧ W.cell? ⟨(ad.add ((k + 1) * 3)).block, (ad.add ((k + 1) * 3)).off + 1, none⟩ = some (.int .i64 y.f1) ∧ W.cell? ⟨(ad.add ((k + 1) * 3)).block, (ad.add ((k + 1) * 3)).off + 2, none⟩ = some (.int .i64 y.f2) := fun W hW => by
        have hW' : Below w.heap.size w W := hW
        obtain ⟨ad1, e1, g0, g1, g2⟩ := at_T50 (Kd.C_below HR.out hW') (k : Int) (by omega) (by omega)
        obtain ⟨ad2, e2, g3, g4, g5⟩ := at_T50 (Kd.C_below HR.out hW') ((k + 1 : Nat) : Int) (by omega) (by omega)
        cases e1
        cases e2
        rw [HXY.out.1] at g0 g1 g2
        rw [HXY.out.2] at g3 g4 g5
        simp only [Int.toNat_natCast] at g0 g1 g2 g3 g4 g5
        exact ⟨g0, g1, g2, g3, g4, g5⟩
      clear h0 h1 h2 h3 h4 h5
      go_wp2_with fail
      refine wp_region_auto (Below w.heap.size w) ((0, none, none) :: (0, none, none) :: (0, none, none) :: (0, none, none) :: (0, none, none) :: (0, none, none) :: (1, none, none) :: (1, none, none) :: (1, none, none) :: (1, none, none) :: (1, none, none) :: (0, none, some true) :: (0, none, some true) :: (0, none, none) :: []) (by kernel_rfl) (by kernel_rfl) (fun _ _ d _ _ h => by cases d <;> exact h) hB.out.drew ?_
      repeat' (first
        | (with_reducible apply rel_pass
           focus (intro W hW; first | (go_simp; exact rfl) | go_simp)
           simp only [Act.put, List.setIfInBounds_toArray, List.set_cons_zero, List.set_cons_succ])
        | (with_reducible apply rel_yes
           focus (exact rfl))
        | (with_reducible apply rel_no
           focus (exact rfl)
           simp only [Act.put, List.setIfInBounds_toArray, List.set_cons_zero, List.set_cons_succ])
        | (with_reducible apply rel_askF
           focus (exact rfl)
           all_goals (intro hb; simp only [hb, Act.put, List.setIfInBounds_toArray, List.set_cons_zero, List.set_cons_succ]))
        | (with_reducible apply rel_askT
           focus (exact rfl)
           all_goals (intro hb; simp only [hb, Act.put, List.setIfInBounds_toArray, List.set_cons_zero, List.set_cons_succ]))
        | (with_reducible apply rel_front1)
        | (with_reducible apply rel_front2)
        | (with_reducible apply rel_front3)
        | (with_reducible apply rel_front4)
        | (with_reducible apply rel_front5)
        | (with_reducible apply rel_front6))
      with_reducible apply rel_act
      intro K hK
      go_simp
      refine (HP.out x _).mono ?_
      rintro e w1 ⟨rfl, hb⟩
      have HB1 := Lib.hid (hB.out.drew.trans (Below.mono hb hB.out.drew.size))
      clear hb
      refine hK _ _ ⟨fun _ => HB1.out, ?_⟩
      clear hK K
      try simp only [Act.put, List.setIfInBounds_toArray, List.set_cons_zero, List.set_cons_succ]
      repeat' (first
        | (with_reducible apply rel_pass
           focus (intro W hW; first | (go_simp; exact rfl) | go_simp)
           simp only [Act.put, List.setIfInBounds_toArray, List.set_cons_zero, List.set_cons_succ])
        | (with_reducible apply rel_yes
           focus (exact rfl))
        | (with_reducible apply rel_no
           focus (exact rfl)
           simp only [Act.put, List.setIfInBounds_toArray, List.set_cons_zero, List.set_cons_succ])
        | (with_reducible apply rel_askF
           focus (exact rfl)
           all_goals (intro hb; simp only [hb, Act.put, List.setIfInBounds_toArray, List.set_cons_zero, List.set_cons_succ]))
        | (with_reducible apply rel_askT
           focus (exact rfl)
           all_goals (intro hb; simp only [hb, Act.put, List.setIfInBounds_toArray, List.set_cons_zero, List.set_cons_succ]))
        | (with_reducible apply rel_front1)
        | (with_reducible apply rel_front2)
        | (with_reducible apply rel_front3)
        | (with_reducible apply rel_front4)
        | (with_reducible apply rel_front5)
        | (with_reducible apply rel_front6))
      with_reducible apply rel_act
      intro K hK
      go_simp
      refine (HP.out y _).mono ?_
      rintro e w2 ⟨rfl, hb⟩
      have HB2 := Lib.hid (HB1.out.trans (Below.mono hb HB1.out.size))
      clear hb
      refine hK _ _ ⟨fun _ => HB2.out, ?_⟩
      clear hK K
      try simp only [Act.put, List.setIfInBounds_toArray, List.set_cons_zero, List.set_cons_succ]
      repeat' (first
        | (with_reducible apply rel_pass
           focus (intro W hW; first | (go_simp; exact rfl) | go_simp)
           simp only [Act.put, List.setIfInBounds_toArray, List.set_cons_zero, List.set_cons_succ])
        | (with_reducible apply rel_yes
           focus (exact rfl))
        | (with_reducible apply rel_no
           focus (exact rfl)
           simp only [Act.put, List.setIfInBounds_toArray, List.set_cons_zero, List.set_cons_succ])
        | (with_reducible apply rel_askF
           focus (exact rfl)
           all_goals (intro hb; simp only [hb, Act.put, List.setIfInBounds_toArray, List.set_cons_zero, List.set_cons_succ]))
        | (with_reducible apply rel_askT
           focus (exact rfl)
           all_goals (intro hb; simp only [hb, Act.put, List.setIfInBounds_toArray, List.set_cons_zero, List.set_cons_succ]))
        | (with_reducible apply rel_front1)
        | (with_reducible apply rel_front2)
        | (with_reducible apply rel_front3)
        | (with_reducible apply rel_front4)
        | (with_reducible apply rel_front5)
        | (with_reducible apply rel_front6))
      apply rel_nil
      simp only [Exit.then, Exit.inBlock]
      clear hS
      by_cases hxy : x.f0 < y.f0
      · have d : ¬ y.f0 ≤ x.f0 := by omega
        have hs := HS.out
        rw [decide_eq_true hxy, Bool.true_and] at hs
        have HS2 := Lib.hid hs
        clear hs hxy
        go_wp2_with fail
        refine ⟨⟨k + 1, Or.inl (by omega), congrArg (Value.int .i64) (by omega), HB2.out, HS2.out⟩, ?_⟩
        simp only [intOf]
        omega
      · have d : y.f0 ≤ x.f0 := by omega
        have hs := HS.out
        rw [decide_eq_false hxy, Bool.false_and] at hs
        have HS2 := Lib.hid hs
        clear hs hxy
        go_wp2_with fail
        go_ret
        exact ⟨by rw [← HS2.out]; rfl, HB2.out⟩
    · have hs := hno.out
      have e : riseB S50.f0 (l.drop k) = true := by
        have : (l.drop k).length ≤ 1 := by rw [List.length_drop]; omega
        match h : l.drop k with
        | [] => rfl
        | [_] => rfl
        | _ :: _ :: _ => rw [h] at this; simp at this
      rw [e] at hs
      have HS := Lib.hid hs
      clear hs hno e
      go_wp2_with fail
      go_ret
      exact ⟨by rw [← HS.out]; rfl, hB.out⟩
def statement_isLines.f (l0 : List (S50)) : Option (Bool) := some (linesB l0)
set_option maxHeartbeats 1000000 in
theorem statement_isLines.calls (A0 : Option Addr) (c0 : Nat) (l0 : List (S50)) (r : Bool) (w : World) (hr0 : Kd.C k50 w A0 l0.length l0) (hc0 : l0.length ≤ c0) (h : statement_isLines.f l0 = some r) :
    Calls Tryd.prog 28 #[.slice A0 l0.length c0] w fun e w' => e = .returned (.bool r) ∧ Below w.heap.size w w' := by
  obtain rfl := Option.some.inj h
  have hany : l0.any (fun x => !lineB x) = !l0.all lineB := by
    rw [List.not_all_eq_any_not]
  have C1 := Lib.hid (contains_L (g := 53) (cap := #[]) (fun x => !lineB x) l0 A0 c0 w hr0 (fun x W _ _ => odd_pred x W) (enters_of Tryd.func53 (by kernel_rfl) rfl))
  rw [hany] at C1
  have C2 := Lib.hid (fun W (hW : Below w.heap.size w W) => rise_L l0 A0 c0 W (Kd.C_below hr0 hW))
  unfold linesB
  have d : decide ((l0.length : Int) ≤ 64) = decide (l0.length ≤ 64) := by rw [decide_eq_decide]; omega
  have hl : l0.length ≤ 9223372036854775807 := hr0.2.1
  clear h hany hr0
  generalize decide (l0.length ≤ 64) = b0 at *
  generalize l0.all lineB = b1 at *
  generalize riseB S50.f0 l0 = b2 at *
  cases b0 with
  | false =>
    go_enter Tryd.func28, Tryd.ntmps28
    go_wp2_with fail
    go_ret
    exact ⟨rfl, Below.refl _ _⟩
  | true =>
    go_enter Tryd.func28, Tryd.ntmps28
    go_wp2_with fail
    refine C1.out.mono ?_
    rintro e w1 ⟨rfl, hb⟩
    have HB := Lib.hid hb
    clear hb
    cases b1 with
    | false =>
      go_wp2_with fail
      go_ret
      exact ⟨rfl, HB.out⟩
    | true =>
      go_wp2_with fail
      refine (C2.out w1 HB.out).mono ?_
      rintro e w2 ⟨rfl, hb⟩
      have HB2 := Lib.hid (HB.out.trans (Below.mono hb HB.out.size))
      clear hb
      go_wp2_with fail
      go_ret
      exact ⟨by simp, HB2.out⟩
end Go.Proofs.YtkdckjafhaadiaaDoor.P
/- statement.isAll: which lists are all commitments of a month. -/
set_option linter.unusedSimpArgs false
set_option linter.unusedVariables false
namespace Go.Proofs.YtkdckjafhaadiaaDoor.P
open Go Go.RowKit Go.Proofs.YtkdckjafhaadiaaDoorW.PrintWords Go.Proofs.YtkdckjafhaadiaaDoorW.PrintLast Go.Proofs.YtkdckjafhaadiaaDoorW.PrintMore Go.Proofs.YtkdckjafhaadiaaDoor.Ord

theorem isBase_f (h : Int) : statement_isBase.f h = some (keyB h) := by
  unfold statement_isBase.f keyB
  simp only [member_f, Option.bind_some]
  by_cases h1 : h = 1
  · simp [h1]
  · simp [h1]
set_option maxHeartbeats 1000000 in
theorem strange_pred (x : Int) (W : World) : Calls Tryd.prog 46 #[.int .i64 x] W fun e W' => e = .returned (.bool (!memB x)) ∧ Below W.heap.size W W' := by
  have H0 := Lib.hid (fun W => group_Member.calls x _ W (member_f x))
  go_enter Tryd.func46, Tryd.ntmps46
  go_wp2_with fail
  refine (H0.out _).mono ?_
  rintro e w1 ⟨rfl, hb⟩
  have HB := Lib.hid hb
  clear hb
  go_wp2_with fail
  go_ret
  exact ⟨rfl, HB.out⟩
set_option maxHeartbeats 1000000 in
theorem hom_calls (x0 x1 : Int) (v : Value) (W : World) : Calls Tryd.prog 50 #[.agg #[.int .i64 x0, .int .i64 x1, v]] W fun e W' => e = .returned (.int .i64 x0) ∧ Below W.heap.size W W' := by
  go_enter Tryd.func50, Tryd.ntmps50
  go_wp2_with fail
  go_ret
  exact ⟨rfl, (Below.refl _ W).alloc (Nat.le_refl _) _⟩
/-- What stands still while a commitment is looked at. -/
structure So (W0 W : World) (vs : List Value) : Prop where
  b : Below W0.heap.size W0 W
  x : Blk W W0.heap.size 45 vs
theorem So.below {W0 W W' : World} {vs : List Value} (h : So W0 W vs) (hb : Below W.heap.size W W') : So W0 W' vs := ⟨h.b.trans (Below.mono hb h.b.size), h.x.below hb h.x.lt⟩
theorem So.drew {W0 W : World} {vs : List Value} (h : So W0 W vs) : So W0 W.drew vs := ⟨h.b.drew, h.x⟩
set_option maxHeartbeats 4000000 in
theorem oddS_pred (x : S45) (A2 : Option Addr) (c2 : Nat) (B : Nat) (A : Option Addr) (c : Nat) (l : List S45) (W : World) (hle : x.f2.length ≤ c2) (hC : Kd.C (Kd.int .i64) W A2 x.f2.length x.f2)
    (hB : W.cell? ⟨B, 0, none⟩ = some (.slice A l.length c)) (hrl : Kd.C k45 W A l.length l) (hn : 0 < l.length) :
    Calls Tryd.prog 45 #[.agg #[.int .i64 x.f0, .int .i64 x.f1, .slice A2 x.f2.length c2], .pointer (some ⟨B, 0, none⟩)] W fun e W' => e = .returned (.bool (!okS (rd_T45 l 0).f1 x)) ∧ Below W.heap.size W W' := by
  have H0 := Lib.hid (fun W => statement_between.calls x.f0 1 64 _ W (between_f _ _ _))
  have H1 := Lib.hid (fun W => statement_isBase.calls x.f1 _ W (isBase_f _))
  have hany : x.f2.any (fun x => !memB x) = !x.f2.all memB := by rw [List.not_all_eq_any_not]
  have H2 := Lib.hid (fun W' (hW : Below W.heap.size W W') => contains_I (g := 46) (cap := #[]) (fun x => !memB x) x.f2 A2 c2 W' (Kd.C_below hC hW) (fun x W _ _ => strange_pred x W) (enters_of Tryd.func46 (by kernel_rfl) rfl))
  rw [hany] at H2
  obtain ⟨ad, A0, c0, rfl, -⟩ := at_T45 hrl (0 : Int) (by omega) (by omega)
  have H3 := Lib.hid (fun W' (hW : Below W.heap.size W W') => (show W'.cell? ⟨B, 0, none⟩ = some (.slice (some ad) l.length c) ∧ W'.cell? ⟨ad.block, ad.off + 1, none⟩ = some (.int .i64 (rd_T45 l 0).f1) by
    obtain ⟨ad', A0', c0', e, -, h1, -⟩ := at_T45 (Kd.C_below hrl hW) (0 : Int) (by omega) (by omega)
    cases e
    refine ⟨(hW.cell (World.block_lt_of_cell? W _ hB)).trans hB, ?_⟩
    rw [show ad.add ((0 : Int).toNat * 3) = ad from Addr.add_zero' ad] at h1
    exact h1))
  have hnl : (0 : Int) < (l.length : Int) := by omega
  have dl : ((x.f2.length : Int) > 64) = ¬ (x.f2.length ≤ 64) := by rw [eq_iff_iff]; omega
  have hlx : x.f2.length ≤ 9223372036854775807 := hC.2.1
  unfold okS homeB
  clear hany hC hrl hB
  obtain ⟨x0, x1, x2⟩ := x
  simp only at *
  generalize (rd_T45 l 0).f1 = y at *
  generalize btw x0 1 64 = b0 at *
  generalize keyB x1 = b1 at *
  generalize x2.all memB = b4 at *
  cases b0 with
  | false =>
    go_enter Tryd.func45, Tryd.ntmps45
    go_wp2_with fail
    obtain ⟨hx, hsz, hbw⟩ := Blk.box W 45 [Value.int IntKind.i64 x0, Value.int IntKind.i64 x1, Value.slice A2 x2.length c2]
    rw [show (List.toArray [Value.int IntKind.i64 x0, Value.int IntKind.i64 x1, Value.slice A2 x2.length c2]) = #[Value.int IntKind.i64 x0, Value.int IntKind.i64 x1, Value.slice A2 x2.length c2] from rfl] at hx hsz hbw
    generalize W.alloc (Obj.cells #[Value.int IntKind.i64 x0, Value.int IntKind.i64 x1, Value.slice A2 x2.length c2] 45) = W1 at hx hsz hbw ⊢
    have HS1 := Lib.hid (show So W W1 [Value.int IntKind.i64 x0, Value.int IntKind.i64 x1, Value.slice A2 x2.length c2] from ⟨hbw, hx⟩)
    have hS : ∀ V, Held (fun V => So W V [Value.int IntKind.i64 x0, Value.int IntKind.i64 x1, Value.slice A2 x2.length c2]) V → V.cell? ⟨W.heap.size, 0, none⟩ = some (.int .i64 x0) ∧ V.cell? ⟨W.heap.size, 1, none⟩ = some (.int .i64 x1) ∧ V.cell? ⟨W.heap.size, 2, none⟩ = some (.slice A2 x2.length c2) ∧ V.cell? ⟨B, 0, none⟩ = some (.slice (some ad) l.length c) ∧ V.cell? ⟨ad.block, ad.off + 1, none⟩ = some (.int .i64 y) := fun V hV =>
      ⟨hV.x.cell 0 _ rfl, hV.x.cell 1 _ rfl, hV.x.cell 2 _ rfl, (H3.out V hV.b).1, (H3.out V hV.b).2⟩
    clear hx hsz hbw
    refine wp_region_auto (fun V => So W V [Value.int IntKind.i64 x0, Value.int IntKind.i64 x1, Value.slice A2 x2.length c2]) ((0, none, none) :: (0, none, none) :: (0, none, some true) :: (0, none, none) :: (0, none, none) :: (0, some (9, false), none) :: (0, some (9, false), none) :: (0, some (9, false), some true) :: (0, some (9, false), none) :: (0, none, none) :: (0, none, none) :: (0, some (15, false), none) :: (0, some (15, false), none) :: (0, some (15, false), none) :: (0, some (15, false), none) :: (0, some (15, false), none) :: (0, some (15, false), none) :: (0, some (15, false), none) :: (0, none, none) :: (0, none, none) :: (0, some (24, false), none) :: (0, some (24, false), none) :: (0, some (24, false), none) :: (0, some (24, false), none) :: (0, none, none) :: (0, none, none) :: (0, some (30, false), none) :: (0, some (30, false), none) :: (0, some (30, false), none) :: (0, some (30, false), some true) :: (0, none, none) :: (0, none, none) :: []) (by kernel_rfl) (by kernel_rfl) (fun _ _ d _ _ h => by cases d <;> exact h) HS1.out.drew ?_
    repeat' (first
      | (with_reducible apply rel_pass
         focus (intro W hW; first | (go_simp; exact rfl) | go_simp)
         simp only [Act.put, List.setIfInBounds_toArray, List.set_cons_zero, List.set_cons_succ])
      | (with_reducible apply rel_yes
         focus (exact rfl))
      | (with_reducible apply rel_no
         focus (exact rfl)
         simp only [Act.put, List.setIfInBounds_toArray, List.set_cons_zero, List.set_cons_succ])
      | (with_reducible apply rel_askF
         focus (exact rfl)
         all_goals (intro hb; simp only [hb, Act.put, List.setIfInBounds_toArray, List.set_cons_zero, List.set_cons_succ]))
      | (with_reducible apply rel_askT
         focus (exact rfl)
         all_goals (intro hb; simp only [hb, Act.put, List.setIfInBounds_toArray, List.set_cons_zero, List.set_cons_succ]))
      | (with_reducible apply rel_front1)
      | (with_reducible apply rel_front2)
      | (with_reducible apply rel_front3)
      | (with_reducible apply rel_front4)
      | (with_reducible apply rel_front5)
      | (with_reducible apply rel_front6))
    with_reducible apply rel_act
    intro K hK
    go_simp
    refine (H0.out _).mono ?_
    rintro e w1 ⟨rfl, hd⟩
    have HS2 := Lib.hid (HS1.out.drew.below hd.below)
    clear hd
    refine hK _ _ ⟨fun _ => HS2.out, ?_⟩
    clear hK K
    try simp only [Act.put, List.setIfInBounds_toArray, List.set_cons_zero, List.set_cons_succ]
    repeat' (first
      | (with_reducible apply rel_pass
         focus (intro W hW; first | (go_simp; exact rfl) | go_simp)
         simp only [Act.put, List.setIfInBounds_toArray, List.set_cons_zero, List.set_cons_succ])
      | (with_reducible apply rel_yes
         focus (exact rfl))
      | (with_reducible apply rel_no
         focus (exact rfl)
         simp only [Act.put, List.setIfInBounds_toArray, List.set_cons_zero, List.set_cons_succ])
      | (with_reducible apply rel_askF
         focus (exact rfl)
         all_goals (intro hb; simp only [hb, Act.put, List.setIfInBounds_toArray, List.set_cons_zero, List.set_cons_succ]))
      | (with_reducible apply rel_askT
         focus (exact rfl)
         all_goals (intro hb; simp only [hb, Act.put, List.setIfInBounds_toArray, List.set_cons_zero, List.set_cons_succ]))
      | (with_reducible apply rel_front1)
      | (with_reducible apply rel_front2)
      | (with_reducible apply rel_front3)
      | (with_reducible apply rel_front4)
      | (with_reducible apply rel_front5)
      | (with_reducible apply rel_front6))
    apply rel_nil
    simp only [Exit.then, Exit.inBlock]
    clear hS
    go_wp2_with fail
    go_ret
    exact ⟨by simp, HS2.out.b⟩
  | true =>
    cases b1 with
    | false =>
      go_enter Tryd.func45, Tryd.ntmps45
      go_wp2_with fail
      obtain ⟨hx, hsz, hbw⟩ := Blk.box W 45 [Value.int IntKind.i64 x0, Value.int IntKind.i64 x1, Value.slice A2 x2.length c2]
      rw [show (List.toArray [Value.int IntKind.i64 x0, Value.int IntKind.i64 x1, Value.slice A2 x2.length c2]) = #[Value.int IntKind.i64 x0, Value.int IntKind.i64 x1, Value.slice A2 x2.length c2] from rfl] at hx hsz hbw
      generalize W.alloc (Obj.cells #[Value.int IntKind.i64 x0, Value.int IntKind.i64 x1, Value.slice A2 x2.length c2] 45) = W1 at hx hsz hbw ⊢
      have HS1 := Lib.hid (show So W W1 [Value.int IntKind.i64 x0, Value.int IntKind.i64 x1, Value.slice A2 x2.length c2] from ⟨hbw, hx⟩)
      have hS : ∀ V, Held (fun V => So W V [Value.int IntKind.i64 x0, Value.int IntKind.i64 x1, Value.slice A2 x2.length c2]) V → V.cell? ⟨W.heap.size, 0, none⟩ = some (.int .i64 x0) ∧ V.cell? ⟨W.heap.size, 1, none⟩ = some (.int .i64 x1) ∧ V.cell? ⟨W.heap.size, 2, none⟩ = some (.slice A2 x2.length c2) ∧ V.cell? ⟨B, 0, none⟩ = some (.slice (some ad) l.length c) ∧ V.cell? ⟨ad.block, ad.off + 1, none⟩ = some (.int .i64 y) := fun V hV =>
        ⟨hV.x.cell 0 _ rfl, hV.x.cell 1 _ rfl, hV.x.cell 2 _ rfl, (H3.out V hV.b).1, (H3.out V hV.b).2⟩
      clear hx hsz hbw
      refine wp_region_auto (fun V => So W V [Value.int IntKind.i64 x0, Value.int IntKind.i64 x1, Value.slice A2 x2.length c2]) ((0, none, none) :: (0, none, none) :: (0, none, some true) :: (0, none, none) :: (0, none, none) :: (0, some (9, false), none) :: (0, some (9, false), none) :: (0, some (9, false), some true) :: (0, some (9, false), none) :: (0, none, none) :: (0, none, none) :: (0, some (15, false), none) :: (0, some (15, false), none) :: (0, some (15, false), none) :: (0, some (15, false), none) :: (0, some (15, false), none) :: (0, some (15, false), none) :: (0, some (15, false), none) :: (0, none, none) :: (0, none, none) :: (0, some (24, false), none) :: (0, some (24, false), none) :: (0, some (24, false), none) :: (0, some (24, false), none) :: (0, none, none) :: (0, none, none) :: (0, some (30, false), none) :: (0, some (30, false), none) :: (0, some (30, false), none) :: (0, some (30, false), some true) :: (0, none, none) :: (0, none, none) :: []) (by kernel_rfl) (by kernel_rfl) (fun _ _ d _ _ h => by cases d <;> exact h) HS1.out.drew ?_
      repeat' (first
        | (with_reducible apply rel_pass
           focus (intro W hW; first | (go_simp; exact rfl) | go_simp)
           simp only [Act.put, List.setIfInBounds_toArray, List.set_cons_zero, List.set_cons_succ])
        | (with_reducible apply rel_yes
           focus (exact rfl))
        | (with_reducible apply rel_no
           focus (exact rfl)
           simp only [Act.put, List.setIfInBounds_toArray, List.set_cons_zero, List.set_cons_succ])
        | (with_reducible apply rel_askF
           focus (exact rfl)
           all_goals (intro hb; simp only [hb, Act.put, List.setIfInBounds_toArray, List.set_cons_zero, List.set_cons_succ]))
        | (with_reducible apply rel_askT
           focus (exact rfl)
           all_goals (intro hb; simp only [hb, Act.put, List.setIfInBounds_toArray, List.set_cons_zero, List.set_cons_succ]))
        | (with_reducible apply rel_front1)
        | (with_reducible apply rel_front2)
        | (with_reducible apply rel_front3)
        | (with_reducible apply rel_front4)
        | (with_reducible apply rel_front5)
        | (with_reducible apply rel_front6))
      with_reducible apply rel_act
      intro K hK
      go_simp
      refine (H0.out _).mono ?_
      rintro e w1 ⟨rfl, hd⟩
      have HS2 := Lib.hid (HS1.out.drew.below hd.below)
      clear hd
      refine hK _ _ ⟨fun _ => HS2.out, ?_⟩
      clear hK K
      try simp only [Act.put, List.setIfInBounds_toArray, List.set_cons_zero, List.set_cons_succ]
      repeat' (first
        | (with_reducible apply rel_pass
           focus (intro W hW; first | (go_simp; exact rfl) | go_simp)
           simp only [Act.put, List.setIfInBounds_toArray, List.set_cons_zero, List.set_cons_succ])
        | (with_reducible apply rel_yes
           focus (exact rfl))
        | (with_reducible apply rel_no
           focus (exact rfl)
           simp only [Act.put, List.setIfInBounds_toArray, List.set_cons_zero, List.set_cons_succ])
        | (with_reducible apply rel_askF
           focus (exact rfl)
           all_goals (intro hb; simp only [hb, Act.put, List.setIfInBounds_toArray, List.set_cons_zero, List.set_cons_succ]))
        | (with_reducible apply rel_askT
           focus (exact rfl)
           all_goals (intro hb; simp only [hb, Act.put, List.setIfInBounds_toArray, List.set_cons_zero, List.set_cons_succ]))
        | (with_reducible apply rel_front1)
        | (with_reducible apply rel_front2)
        | (with_reducible apply rel_front3)
        | (with_reducible apply rel_front4)
        | (with_reducible apply rel_front5)
        | (with_reducible apply rel_front6))
      with_reducible apply rel_act
      intro K hK
      go_simp
      refine (H1.out _).mono ?_
      rintro e w2 ⟨rfl, hd⟩
      have HS3 := Lib.hid (HS2.out.below hd)
      clear hd
      refine hK _ _ ⟨fun _ => HS3.out, ?_⟩
      clear hK K
      try simp only [Act.put, List.setIfInBounds_toArray, List.set_cons_zero, List.set_cons_succ]
      repeat' (first
        | (with_reducible apply rel_pass
           focus (intro W hW; first | (go_simp; exact rfl) | go_simp)
           simp only [Act.put, List.setIfInBounds_toArray, List.set_cons_zero, List.set_cons_succ])
        | (with_reducible apply rel_yes
           focus (exact rfl))
        | (with_reducible apply rel_no
           focus (exact rfl)
           simp only [Act.put, List.setIfInBounds_toArray, List.set_cons_zero, List.set_cons_succ])
        | (with_reducible apply rel_askF
           focus (exact rfl)
           all_goals (intro hb; simp only [hb, Act.put, List.setIfInBounds_toArray, List.set_cons_zero, List.set_cons_succ]))
        | (with_reducible apply rel_askT
           focus (exact rfl)
           all_goals (intro hb; simp only [hb, Act.put, List.setIfInBounds_toArray, List.set_cons_zero, List.set_cons_succ]))
        | (with_reducible apply rel_front1)
        | (with_reducible apply rel_front2)
        | (with_reducible apply rel_front3)
        | (with_reducible apply rel_front4)
        | (with_reducible apply rel_front5)
        | (with_reducible apply rel_front6))
      apply rel_nil
      simp only [Exit.then, Exit.inBlock]
      clear hS
      go_wp2_with fail
      go_ret
      exact ⟨by simp, HS3.out.b⟩
    | true =>
      by_cases hxy : x1 = y
      · subst hxy
        rw [beq_self_eq_true, Bool.true_and]
        have hne : (x1 != x1) = false := by simp
        by_cases h64 : x2.length ≤ 64
        · rw [decide_eq_true h64, Bool.true_and]
          have d64 : decide ((64 : Int) < (x2.length : Int)) = false := decide_eq_false (by omega)
          clear h64 dl
          cases b4 with
          | false =>
            go_enter Tryd.func45, Tryd.ntmps45
            go_wp2_with fail
            obtain ⟨hx, hsz, hbw⟩ := Blk.box W 45 [Value.int IntKind.i64 x0, Value.int IntKind.i64 x1, Value.slice A2 x2.length c2]
            rw [show (List.toArray [Value.int IntKind.i64 x0, Value.int IntKind.i64 x1, Value.slice A2 x2.length c2]) = #[Value.int IntKind.i64 x0, Value.int IntKind.i64 x1, Value.slice A2 x2.length c2] from rfl] at hx hsz hbw
            generalize W.alloc (Obj.cells #[Value.int IntKind.i64 x0, Value.int IntKind.i64 x1, Value.slice A2 x2.length c2] 45) = W1 at hx hsz hbw ⊢
            have HS1 := Lib.hid (show So W W1 [Value.int IntKind.i64 x0, Value.int IntKind.i64 x1, Value.slice A2 x2.length c2] from ⟨hbw, hx⟩)
            have hS : ∀ V, Held (fun V => So W V [Value.int IntKind.i64 x0, Value.int IntKind.i64 x1, Value.slice A2 x2.length c2]) V → V.cell? ⟨W.heap.size, 0, none⟩ = some (.int .i64 x0) ∧ V.cell? ⟨W.heap.size, 1, none⟩ = some (.int .i64 x1) ∧ V.cell? ⟨W.heap.size, 2, none⟩ = some (.slice A2 x2.length c2) ∧ V.cell? ⟨B, 0, none⟩ = some (.slice (some ad) l.length c) ∧ V.cell? ⟨ad.block, ad.off + 1, none⟩ = some (.int .i64 x1) := fun V hV =>
              ⟨hV.x.cell 0 _ rfl, hV.x.cell 1 _ rfl, hV.x.cell 2 _ rfl, (H3.out V hV.b).1, (H3.out V hV.b).2⟩
            clear hx hsz hbw
            refine wp_region_auto (fun V => So W V [Value.int IntKind.i64 x0, Value.int IntKind.i64 x1, Value.slice A2 x2.length c2]) ((0, none, none) :: (0, none, none) :: (0, none, some true) :: (0, none, none) :: (0, none, none) :: (0, some (9, false), none) :: (0, some (9, false), none) :: (0, some (9, false), some true) :: (0, some (9, false), none) :: (0, none, none) :: (0, none, none) :: (0, some (15, false), none) :: (0, some (15, false), none) :: (0, some (15, false), none) :: (0, some (15, false), none) :: (0, some (15, false), none) :: (0, some (15, false), none) :: (0, some (15, false), none) :: (0, none, none) :: (0, none, none) :: (0, some (24, false), none) :: (0, some (24, false), none) :: (0, some (24, false), none) :: (0, some (24, false), none) :: (0, none, none) :: (0, none, none) :: (0, some (30, false), none) :: (0, some (30, false), none) :: (0, some (30, false), none) :: (0, some (30, false), some true) :: (0, none, none) :: (0, none, none) :: []) (by kernel_rfl) (by kernel_rfl) (fun _ _ d _ _ h => by cases d <;> exact h) HS1.out.drew ?_
            repeat' (first
              | (with_reducible apply rel_pass
                 focus (intro W hW; first | (go_simp; exact rfl) | go_simp)
                 simp only [Act.put, List.setIfInBounds_toArray, List.set_cons_zero, List.set_cons_succ])
              | (with_reducible apply rel_yes
                 focus (exact rfl))
              | (with_reducible apply rel_no
                 focus (exact rfl)
                 simp only [Act.put, List.setIfInBounds_toArray, List.set_cons_zero, List.set_cons_succ])
              | (with_reducible apply rel_askF
                 focus (exact rfl)
                 all_goals (intro hb; simp only [hb, Act.put, List.setIfInBounds_toArray, List.set_cons_zero, List.set_cons_succ]))
              | (with_reducible apply rel_askT
                 focus (exact rfl)
                 all_goals (intro hb; simp only [hb, Act.put, List.setIfInBounds_toArray, List.set_cons_zero, List.set_cons_succ]))
              | (with_reducible apply rel_front1)
              | (with_reducible apply rel_front2)
              | (with_reducible apply rel_front3)
              | (with_reducible apply rel_front4)
              | (with_reducible apply rel_front5)
              | (with_reducible apply rel_front6))
            with_reducible apply rel_act
            intro K hK
            go_simp
            refine (H0.out _).mono ?_
            rintro e w1 ⟨rfl, hd⟩
            have HS2 := Lib.hid (HS1.out.drew.below hd.below)
            clear hd
            refine hK _ _ ⟨fun _ => HS2.out, ?_⟩
            clear hK K
            try simp only [Act.put, List.setIfInBounds_toArray, List.set_cons_zero, List.set_cons_succ]
            repeat' (first
              | (with_reducible apply rel_pass
                 focus (intro W hW; first | (go_simp; exact rfl) | go_simp)
                 simp only [Act.put, List.setIfInBounds_toArray, List.set_cons_zero, List.set_cons_succ])
              | (with_reducible apply rel_yes
                 focus (exact rfl))
              | (with_reducible apply rel_no
                 focus (exact rfl)
                 simp only [Act.put, List.setIfInBounds_toArray, List.set_cons_zero, List.set_cons_succ])
              | (with_reducible apply rel_askF
                 focus (exact rfl)
                 all_goals (intro hb; simp only [hb, Act.put, List.setIfInBounds_toArray, List.set_cons_zero, List.set_cons_succ]))
              | (with_reducible apply rel_askT
                 focus (exact rfl)
                 all_goals (intro hb; simp only [hb, Act.put, List.setIfInBounds_toArray, List.set_cons_zero, List.set_cons_succ]))
              | (with_reducible apply rel_front1)
              | (with_reducible apply rel_front2)
              | (with_reducible apply rel_front3)
              | (with_reducible apply rel_front4)
              | (with_reducible apply rel_front5)
              | (with_reducible apply rel_front6))
            with_reducible apply rel_act
            intro K hK
            go_simp
            refine (H1.out _).mono ?_
            rintro e w2 ⟨rfl, hd⟩
            have HS3 := Lib.hid (HS2.out.below hd)
            clear hd
            refine hK _ _ ⟨fun _ => HS3.out, ?_⟩
            clear hK K
            try simp only [Act.put, List.setIfInBounds_toArray, List.set_cons_zero, List.set_cons_succ]
            repeat' (first
              | (with_reducible apply rel_pass
                 focus (intro W hW; first | (go_simp; exact rfl) | go_simp)
                 simp only [Act.put, List.setIfInBounds_toArray, List.set_cons_zero, List.set_cons_succ])
              | (with_reducible apply rel_yes
                 focus (exact rfl))
              | (with_reducible apply rel_no
                 focus (exact rfl)
                 simp only [Act.put, List.setIfInBounds_toArray, List.set_cons_zero, List.set_cons_succ])
              | (with_reducible apply rel_askF
                 focus (exact rfl)
                 all_goals (intro hb; simp only [hb, Act.put, List.setIfInBounds_toArray, List.set_cons_zero, List.set_cons_succ]))
              | (with_reducible apply rel_askT
                 focus (exact rfl)
                 all_goals (intro hb; simp only [hb, Act.put, List.setIfInBounds_toArray, List.set_cons_zero, List.set_cons_succ]))
              | (with_reducible apply rel_front1)
              | (with_reducible apply rel_front2)
              | (with_reducible apply rel_front3)
              | (with_reducible apply rel_front4)
              | (with_reducible apply rel_front5)
              | (with_reducible apply rel_front6))
            with_reducible apply rel_act
            intro K hK
            go_simp
            refine (H2.out _ HS3.out.b).mono ?_
            rintro e w3 ⟨rfl, hd⟩
            have HS4 := Lib.hid (HS3.out.below hd)
            clear hd
            refine hK _ _ ⟨fun _ => HS4.out, ?_⟩
            clear hK K
            try simp only [Act.put, List.setIfInBounds_toArray, List.set_cons_zero, List.set_cons_succ]
            repeat' (first
              | (with_reducible apply rel_pass
                 focus (intro W hW; first | (go_simp; exact rfl) | go_simp)
                 simp only [Act.put, List.setIfInBounds_toArray, List.set_cons_zero, List.set_cons_succ])
              | (with_reducible apply rel_yes
                 focus (exact rfl))
              | (with_reducible apply rel_no
                 focus (exact rfl)
                 simp only [Act.put, List.setIfInBounds_toArray, List.set_cons_zero, List.set_cons_succ])
              | (with_reducible apply rel_askF
                 focus (exact rfl)
                 all_goals (intro hb; simp only [hb, Act.put, List.setIfInBounds_toArray, List.set_cons_zero, List.set_cons_succ]))
              | (with_reducible apply rel_askT
                 focus (exact rfl)
                 all_goals (intro hb; simp only [hb, Act.put, List.setIfInBounds_toArray, List.set_cons_zero, List.set_cons_succ]))
              | (with_reducible apply rel_front1)
              | (with_reducible apply rel_front2)
              | (with_reducible apply rel_front3)
              | (with_reducible apply rel_front4)
              | (with_reducible apply rel_front5)
              | (with_reducible apply rel_front6))
            apply rel_nil
            simp only [Exit.then, Exit.inBlock]
            clear hS
            go_wp2_with fail
            go_ret
            exact ⟨by simp, HS4.out.b⟩
          | true =>
            go_enter Tryd.func45, Tryd.ntmps45
            go_wp2_with fail
            obtain ⟨hx, hsz, hbw⟩ := Blk.box W 45 [Value.int IntKind.i64 x0, Value.int IntKind.i64 x1, Value.slice A2 x2.length c2]
            rw [show (List.toArray [Value.int IntKind.i64 x0, Value.int IntKind.i64 x1, Value.slice A2 x2.length c2]) = #[Value.int IntKind.i64 x0, Value.int IntKind.i64 x1, Value.slice A2 x2.length c2] from rfl] at hx hsz hbw
            generalize W.alloc (Obj.cells #[Value.int IntKind.i64 x0, Value.int IntKind.i64 x1, Value.slice A2 x2.length c2] 45) = W1 at hx hsz hbw ⊢
            have HS1 := Lib.hid (show So W W1 [Value.int IntKind.i64 x0, Value.int IntKind.i64 x1, Value.slice A2 x2.length c2] from ⟨hbw, hx⟩)
            have hS : ∀ V, Held (fun V => So W V [Value.int IntKind.i64 x0, Value.int IntKind.i64 x1, Value.slice A2 x2.length c2]) V → V.cell? ⟨W.heap.size, 0, none⟩ = some (.int .i64 x0) ∧ V.cell? ⟨W.heap.size, 1, none⟩ = some (.int .i64 x1) ∧ V.cell? ⟨W.heap.size, 2, none⟩ = some (.slice A2 x2.length c2) ∧ V.cell? ⟨B, 0, none⟩ = some (.slice (some ad) l.length c) ∧ V.cell? ⟨ad.block, ad.off + 1, none⟩ = some (.int .i64 x1) := fun V hV =>
              ⟨hV.x.cell 0 _ rfl, hV.x.cell 1 _ rfl, hV.x.cell 2 _ rfl, (H3.out V hV.b).1, (H3.out V hV.b).2⟩
            clear hx hsz hbw
            refine wp_region_auto (fun V => So W V [Value.int IntKind.i64 x0, Value.int IntKind.i64 x1, Value.slice A2 x2.length c2]) ((0, none, none) :: (0, none, none) :: (0, none, some true) :: (0, none, none) :: (0, none, none) :: (0, some (9, false), none) :: (0, some (9, false), none) :: (0, some (9, false), some true) :: (0, some (9, false), none) :: (0, none, none) :: (0, none, none) :: (0, some (15, false), none) :: (0, some (15, false), none) :: (0, some (15, false), none) :: (0, some (15, false), none) :: (0, some (15, false), none) :: (0, some (15, false), none) :: (0, some (15, false), none) :: (0, none, none) :: (0, none, none) :: (0, some (24, false), none) :: (0, some (24, false), none) :: (0, some (24, false), none) :: (0, some (24, false), none) :: (0, none, none) :: (0, none, none) :: (0, some (30, false), none) :: (0, some (30, false), none) :: (0, some (30, false), none) :: (0, some (30, false), some true) :: (0, none, none) :: (0, none, none) :: []) (by kernel_rfl) (by kernel_rfl) (fun _ _ d _ _ h => by cases d <;> exact h) HS1.out.drew ?_
            repeat' (first
              | (with_reducible apply rel_pass
                 focus (intro W hW; first | (go_simp; exact rfl) | go_simp)
                 simp only [Act.put, List.setIfInBounds_toArray, List.set_cons_zero, List.set_cons_succ])
              | (with_reducible apply rel_yes
                 focus (exact rfl))
              | (with_reducible apply rel_no
                 focus (exact rfl)
                 simp only [Act.put, List.setIfInBounds_toArray, List.set_cons_zero, List.set_cons_succ])
              | (with_reducible apply rel_askF
                 focus (exact rfl)
                 all_goals (intro hb; simp only [hb, Act.put, List.setIfInBounds_toArray, List.set_cons_zero, List.set_cons_succ]))
              | (with_reducible apply rel_askT
                 focus (exact rfl)
                 all_goals (intro hb; simp only [hb, Act.put, List.setIfInBounds_toArray, List.set_cons_zero, List.set_cons_succ]))
              | (with_reducible apply rel_front1)
              | (with_reducible apply rel_front2)
              | (with_reducible apply rel_front3)
              | (with_reducible apply rel_front4)
              | (with_reducible apply rel_front5)
              | (with_reducible apply rel_front6))
            with_reducible apply rel_act
            intro K hK
            go_simp
            refine (H0.out _).mono ?_
            rintro e w1 ⟨rfl, hd⟩
            have HS2 := Lib.hid (HS1.out.drew.below hd.below)
            clear hd
            refine hK _ _ ⟨fun _ => HS2.out, ?_⟩
            clear hK K
            try simp only [Act.put, List.setIfInBounds_toArray, List.set_cons_zero, List.set_cons_succ]
            repeat' (first
              | (with_reducible apply rel_pass
                 focus (intro W hW; first | (go_simp; exact rfl) | go_simp)
                 simp only [Act.put, List.setIfInBounds_toArray, List.set_cons_zero, List.set_cons_succ])
              | (with_reducible apply rel_yes
                 focus (exact rfl))
              | (with_reducible apply rel_no
                 focus (exact rfl)
                 simp only [Act.put, List.setIfInBounds_toArray, List.set_cons_zero, List.set_cons_succ])
              | (with_reducible apply rel_askF
                 focus (exact rfl)
                 all_goals (intro hb; simp only [hb, Act.put, List.setIfInBounds_toArray, List.set_cons_zero, List.set_cons_succ]))
              | (with_reducible apply rel_askT
                 focus (exact rfl)
                 all_goals (intro hb; simp only [hb, Act.put, List.setIfInBounds_toArray, List.set_cons_zero, List.set_cons_succ]))
              | (with_reducible apply rel_front1)
              | (with_reducible apply rel_front2)
              | (with_reducible apply rel_front3)
              | (with_reducible apply rel_front4)
              | (with_reducible apply rel_front5)
              | (with_reducible apply rel_front6))
            with_reducible apply rel_act
            intro K hK
            go_simp
            refine (H1.out _).mono ?_
            rintro e w2 ⟨rfl, hd⟩
            have HS3 := Lib.hid (HS2.out.below hd)
            clear hd
            refine hK _ _ ⟨fun _ => HS3.out, ?_⟩
            clear hK K
            try simp only [Act.put, List.setIfInBounds_toArray, List.set_cons_zero, List.set_cons_succ]
            repeat' (first
              | (with_reducible apply rel_pass
                 focus (intro W hW; first | (go_simp; exact rfl) | go_simp)
                 simp only [Act.put, List.setIfInBounds_toArray, List.set_cons_zero, List.set_cons_succ])
              | (with_reducible apply rel_yes
                 focus (exact rfl))
              | (with_reducible apply rel_no
                 focus (exact rfl)
                 simp only [Act.put, List.setIfInBounds_toArray, List.set_cons_zero, List.set_cons_succ])
              | (with_reducible apply rel_askF
                 focus (exact rfl)
                 all_goals (intro hb; simp only [hb, Act.put, List.setIfInBounds_toArray, List.set_cons_zero, List.set_cons_succ]))
              | (with_reducible apply rel_askT
                 focus (exact rfl)
                 all_goals (intro hb; simp only [hb, Act.put, List.setIfInBounds_toArray, List.set_cons_zero, List.set_cons_succ]))
              | (with_reducible apply rel_front1)
              | (with_reducible apply rel_front2)
              | (with_reducible apply rel_front3)
              | (with_reducible apply rel_front4)
              | (with_reducible apply rel_front5)
              | (with_reducible apply rel_front6))
            with_reducible apply rel_act
            intro K hK
            go_simp
            refine (H2.out _ HS3.out.b).mono ?_
            rintro e w3 ⟨rfl, hd⟩
            have HS4 := Lib.hid (HS3.out.below hd)
            clear hd
            refine hK _ _ ⟨fun _ => HS4.out, ?_⟩
            clear hK K
            try simp only [Act.put, List.setIfInBounds_toArray, List.set_cons_zero, List.set_cons_succ]
            repeat' (first
              | (with_reducible apply rel_pass
                 focus (intro W hW; first | (go_simp; exact rfl) | go_simp)
                 simp only [Act.put, List.setIfInBounds_toArray, List.set_cons_zero, List.set_cons_succ])
              | (with_reducible apply rel_yes
                 focus (exact rfl))
              | (with_reducible apply rel_no
                 focus (exact rfl)
                 simp only [Act.put, List.setIfInBounds_toArray, List.set_cons_zero, List.set_cons_succ])
              | (with_reducible apply rel_askF
                 focus (exact rfl)
                 all_goals (intro hb; simp only [hb, Act.put, List.setIfInBounds_toArray, List.set_cons_zero, List.set_cons_succ]))
              | (with_reducible apply rel_askT
                 focus (exact rfl)
                 all_goals (intro hb; simp only [hb, Act.put, List.setIfInBounds_toArray, List.set_cons_zero, List.set_cons_succ]))
              | (with_reducible apply rel_front1)
              | (with_reducible apply rel_front2)
              | (with_reducible apply rel_front3)
              | (with_reducible apply rel_front4)
              | (with_reducible apply rel_front5)
              | (with_reducible apply rel_front6))
            apply rel_nil
            simp only [Exit.then, Exit.inBlock]
            clear hS
            go_wp2_with fail
            go_ret
            exact ⟨by simp, HS4.out.b⟩
        · rw [decide_eq_false h64, Bool.false_and]
          have d64 : decide ((64 : Int) < (x2.length : Int)) = true := decide_eq_true (by omega)
          clear h64 dl
          go_enter Tryd.func45, Tryd.ntmps45
          go_wp2_with fail
          obtain ⟨hx, hsz, hbw⟩ := Blk.box W 45 [Value.int IntKind.i64 x0, Value.int IntKind.i64 x1, Value.slice A2 x2.length c2]
          rw [show (List.toArray [Value.int IntKind.i64 x0, Value.int IntKind.i64 x1, Value.slice A2 x2.length c2]) = #[Value.int IntKind.i64 x0, Value.int IntKind.i64 x1, Value.slice A2 x2.length c2] from rfl] at hx hsz hbw
          generalize W.alloc (Obj.cells #[Value.int IntKind.i64 x0, Value.int IntKind.i64 x1, Value.slice A2 x2.length c2] 45) = W1 at hx hsz hbw ⊢
          have HS1 := Lib.hid (show So W W1 [Value.int IntKind.i64 x0, Value.int IntKind.i64 x1, Value.slice A2 x2.length c2] from ⟨hbw, hx⟩)
          have hS : ∀ V, Held (fun V => So W V [Value.int IntKind.i64 x0, Value.int IntKind.i64 x1, Value.slice A2 x2.length c2]) V → V.cell? ⟨W.heap.size, 0, none⟩ = some (.int .i64 x0) ∧ V.cell? ⟨W.heap.size, 1, none⟩ = some (.int .i64 x1) ∧ V.cell? ⟨W.heap.size, 2, none⟩ = some (.slice A2 x2.length c2) ∧ V.cell? ⟨B, 0, none⟩ = some (.slice (some ad) l.length c) ∧ V.cell? ⟨ad.block, ad.off + 1, none⟩ = some (.int .i64 x1) := fun V hV =>
            ⟨hV.x.cell 0 _ rfl, hV.x.cell 1 _ rfl, hV.x.cell 2 _ rfl, (H3.out V hV.b).1, (H3.out V hV.b).2⟩
          clear hx hsz hbw
          refine wp_region_auto (fun V => So W V [Value.int IntKind.i64 x0, Value.int IntKind.i64 x1, Value.slice A2 x2.length c2]) ((0, none, none) :: (0, none, none) :: (0, none, some true) :: (0, none, none) :: (0, none, none) :: (0, some (9, false), none) :: (0, some (9, false), none) :: (0, some (9, false), some true) :: (0, some (9, false), none) :: (0, none, none) :: (0, none, none) :: (0, some (15, false), none) :: (0, some (15, false), none) :: (0, some (15, false), none) :: (0, some (15, false), none) :: (0, some (15, false), none) :: (0, some (15, false), none) :: (0, some (15, false), none) :: (0, none, none) :: (0, none, none) :: (0, some (24, false), none) :: (0, some (24, false), none) :: (0, some (24, false), none) :: (0, some (24, false), none) :: (0, none, none) :: (0, none, none) :: (0, some (30, false), none) :: (0, some (30, false), none) :: (0, some (30, false), none) :: (0, some (30, false), some true) :: (0, none, none) :: (0, none, none) :: []) (by kernel_rfl) (by kernel_rfl) (fun _ _ d _ _ h => by cases d <;> exact h) HS1.out.drew ?_
          repeat' (first
            | (with_reducible apply rel_pass
               focus (intro W hW; first | (go_simp; exact rfl) | go_simp)
               simp only [Act.put, List.setIfInBounds_toArray, List.set_cons_zero, List.set_cons_succ])
            | (with_reducible apply rel_yes
               focus (exact rfl))
            | (with_reducible apply rel_no
               focus (exact rfl)
               simp only [Act.put, List.setIfInBounds_toArray, List.set_cons_zero, List.set_cons_succ])
            | (with_reducible apply rel_askF
               focus (exact rfl)
               all_goals (intro hb; simp only [hb, Act.put, List.setIfInBounds_toArray, List.set_cons_zero, List.set_cons_succ]))
            | (with_reducible apply rel_askT
               focus (exact rfl)
               all_goals (intro hb; simp only [hb, Act.put, List.setIfInBounds_toArray, List.set_cons_zero, List.set_cons_succ]))
            | (with_reducible apply rel_front1)
            | (with_reducible apply rel_front2)
            | (with_reducible apply rel_front3)
            | (with_reducible apply rel_front4)
            | (with_reducible apply rel_front5)
            | (with_reducible apply rel_front6))
          with_reducible apply rel_act
          intro K hK
          go_simp
          refine (H0.out _).mono ?_
          rintro e w1 ⟨rfl, hd⟩
          have HS2 := Lib.hid (HS1.out.drew.below hd.below)
          clear hd
          refine hK _ _ ⟨fun _ => HS2.out, ?_⟩
          clear hK K
          try simp only [Act.put, List.setIfInBounds_toArray, List.set_cons_zero, List.set_cons_succ]
          repeat' (first
            | (with_reducible apply rel_pass
               focus (intro W hW; first | (go_simp; exact rfl) | go_simp)
               simp only [Act.put, List.setIfInBounds_toArray, List.set_cons_zero, List.set_cons_succ])
            | (with_reducible apply rel_yes
               focus (exact rfl))
            | (with_reducible apply rel_no
               focus (exact rfl)
               simp only [Act.put, List.setIfInBounds_toArray, List.set_cons_zero, List.set_cons_succ])
            | (with_reducible apply rel_askF
               focus (exact rfl)
               all_goals (intro hb; simp only [hb, Act.put, List.setIfInBounds_toArray, List.set_cons_zero, List.set_cons_succ]))
            | (with_reducible apply rel_askT
               focus (exact rfl)
               all_goals (intro hb; simp only [hb, Act.put, List.setIfInBounds_toArray, List.set_cons_zero, List.set_cons_succ]))
            | (with_reducible apply rel_front1)
            | (with_reducible apply rel_front2)
            | (with_reducible apply rel_front3)
            | (with_reducible apply rel_front4)
            | (with_reducible apply rel_front5)
            | (with_reducible apply rel_front6))
          with_reducible apply rel_act
          intro K hK
          go_simp
          refine (H1.out _).mono ?_
          rintro e w2 ⟨rfl, hd⟩
          have HS3 := Lib.hid (HS2.out.below hd)
          clear hd
          refine hK _ _ ⟨fun _ => HS3.out, ?_⟩
          clear hK K
          try simp only [Act.put, List.setIfInBounds_toArray, List.set_cons_zero, List.set_cons_succ]
          repeat' (first
            | (with_reducible apply rel_pass
               focus (intro W hW; first | (go_simp; exact rfl) | go_simp)
               simp only [Act.put, List.setIfInBounds_toArray, List.set_cons_zero, List.set_cons_succ])
            | (with_reducible apply rel_yes
               focus (exact rfl))
            | (with_reducible apply rel_no
               focus (exact rfl)
               simp only [Act.put, List.setIfInBounds_toArray, List.set_cons_zero, List.set_cons_succ])
            | (with_reducible apply rel_askF
               focus (exact rfl)
               all_goals (intro hb; simp only [hb, Act.put, List.setIfInBounds_toArray, List.set_cons_zero, List.set_cons_succ]))
            | (with_reducible apply rel_askT
               focus (exact rfl)
               all_goals (intro hb; simp only [hb, Act.put, List.setIfInBounds_toArray, List.set_cons_zero, List.set_cons_succ]))
            | (with_reducible apply rel_front1)
            | (with_reducible apply rel_front2)
            | (with_reducible apply rel_front3)
            | (with_reducible apply rel_front4)
            | (with_reducible apply rel_front5)
            | (with_reducible apply rel_front6))
          apply rel_nil
          simp only [Exit.then, Exit.inBlock]
          clear hS
          go_wp2_with fail
          go_ret
          exact ⟨by simp, HS3.out.b⟩
      · have hq : (x1 == y) = false := by simpa using hxy
        rw [hq, Bool.false_and]
        have hne : (x1 != y) = true := by simpa using hxy
        clear hq hxy dl
        go_enter Tryd.func45, Tryd.ntmps45
        go_wp2_with fail
        obtain ⟨hx, hsz, hbw⟩ := Blk.box W 45 [Value.int IntKind.i64 x0, Value.int IntKind.i64 x1, Value.slice A2 x2.length c2]
        rw [show (List.toArray [Value.int IntKind.i64 x0, Value.int IntKind.i64 x1, Value.slice A2 x2.length c2]) = #[Value.int IntKind.i64 x0, Value.int IntKind.i64 x1, Value.slice A2 x2.length c2] from rfl] at hx hsz hbw
        generalize W.alloc (Obj.cells #[Value.int IntKind.i64 x0, Value.int IntKind.i64 x1, Value.slice A2 x2.length c2] 45) = W1 at hx hsz hbw ⊢
        have HS1 := Lib.hid (show So W W1 [Value.int IntKind.i64 x0, Value.int IntKind.i64 x1, Value.slice A2 x2.length c2] from ⟨hbw, hx⟩)
        have hS : ∀ V, Held (fun V => So W V [Value.int IntKind.i64 x0, Value.int IntKind.i64 x1, Value.slice A2 x2.length c2]) V → V.cell? ⟨W.heap.size, 0, none⟩ = some (.int .i64 x0) ∧ V.cell? ⟨W.heap.size, 1, none⟩ = some (.int .i64 x1) ∧ V.cell? ⟨W.heap.size, 2, none⟩ = some (.slice A2 x2.length c2) ∧ V.cell? ⟨B, 0, none⟩ = some (.slice (some ad) l.length c) ∧ V.cell? ⟨ad.block, ad.off + 1, none⟩ = some (.int .i64 y) := fun V hV =>
          ⟨hV.x.cell 0 _ rfl, hV.x.cell 1 _ rfl, hV.x.cell 2 _ rfl, (H3.out V hV.b).1, (H3.out V hV.b).2⟩
        clear hx hsz hbw
        refine wp_region_auto (fun V => So W V [Value.int IntKind.i64 x0, Value.int IntKind.i64 x1, Value.slice A2 x2.length c2]) ((0, none, none) :: (0, none, none) :: (0, none, some true) :: (0, none, none) :: (0, none, none) :: (0, some (9, false), none) :: (0, some (9, false), none) :: (0, some (9, false), some true) :: (0, some (9, false), none) :: (0, none, none) :: (0, none, none) :: (0, some (15, false), none) :: (0, some (15, false), none) :: (0, some (15, false), none) :: (0, some (15, false), none) :: (0, some (15, false), none) :: (0, some (15, false), none) :: (0, some (15, false), none) :: (0, none, none) :: (0, none, none) :: (0, some (24, false), none) :: (0, some (24, false), none) :: (0, some (24, false), none) :: (0, some (24, false), none) :: (0, none, none) :: (0, none, none) :: (0, some (30, false), none) :: (0, some (30, false), none) :: (0, some (30, false), none) :: (0, some (30, false), some true) :: (0, none, none) :: (0, none, none) :: []) (by kernel_rfl) (by kernel_rfl) (fun _ _ d _ _ h => by cases d <;> exact h) HS1.out.drew ?_
        repeat' (first
          | (with_reducible apply rel_pass
             focus (intro W hW; first | (go_simp; exact rfl) | go_simp)
             simp only [Act.put, List.setIfInBounds_toArray, List.set_cons_zero, List.set_cons_succ])
          | (with_reducible apply rel_yes
             focus (exact rfl))
          | (with_reducible apply rel_no
             focus (exact rfl)
             simp only [Act.put, List.setIfInBounds_toArray, List.set_cons_zero, List.set_cons_succ])
          | (with_reducible apply rel_askF
             focus (exact rfl)
             all_goals (intro hb; simp only [hb, Act.put, List.setIfInBounds_toArray, List.set_cons_zero, List.set_cons_succ]))
          | (with_reducible apply rel_askT
             focus (exact rfl)
             all_goals (intro hb; simp only [hb, Act.put, List.setIfInBounds_toArray, List.set_cons_zero, List.set_cons_succ]))
          | (with_reducible apply rel_front1)
          | (with_reducible apply rel_front2)
          | (with_reducible apply rel_front3)
          | (with_reducible apply rel_front4)
          | (with_reducible apply rel_front5)
          | (with_reducible apply rel_front6))
        with_reducible apply rel_act
        intro K hK
        go_simp
        refine (H0.out _).mono ?_
        rintro e w1 ⟨rfl, hd⟩
        have HS2 := Lib.hid (HS1.out.drew.below hd.below)
        clear hd
        refine hK _ _ ⟨fun _ => HS2.out, ?_⟩
        clear hK K
        try simp only [Act.put, List.setIfInBounds_toArray, List.set_cons_zero, List.set_cons_succ]
        repeat' (first
          | (with_reducible apply rel_pass
             focus (intro W hW; first | (go_simp; exact rfl) | go_simp)
             simp only [Act.put, List.setIfInBounds_toArray, List.set_cons_zero, List.set_cons_succ])
          | (with_reducible apply rel_yes
             focus (exact rfl))
          | (with_reducible apply rel_no
             focus (exact rfl)
             simp only [Act.put, List.setIfInBounds_toArray, List.set_cons_zero, List.set_cons_succ])
          | (with_reducible apply rel_askF
             focus (exact rfl)
             all_goals (intro hb; simp only [hb, Act.put, List.setIfInBounds_toArray, List.set_cons_zero, List.set_cons_succ]))
          | (with_reducible apply rel_askT
             focus (exact rfl)
             all_goals (intro hb; simp only [hb, Act.put, List.setIfInBounds_toArray, List.set_cons_zero, List.set_cons_succ]))
          | (with_reducible apply rel_front1)
          | (with_reducible apply rel_front2)
          | (with_reducible apply rel_front3)
          | (with_reducible apply rel_front4)
          | (with_reducible apply rel_front5)
          | (with_reducible apply rel_front6))
        with_reducible apply rel_act
        intro K hK
        go_simp
        refine (H1.out _).mono ?_
        rintro e w2 ⟨rfl, hd⟩
        have HS3 := Lib.hid (HS2.out.below hd)
        clear hd
        refine hK _ _ ⟨fun _ => HS3.out, ?_⟩
        clear hK K
        try simp only [Act.put, List.setIfInBounds_toArray, List.set_cons_zero, List.set_cons_succ]
        repeat' (first
          | (with_reducible apply rel_pass
             focus (intro W hW; first | (go_simp; exact rfl) | go_simp)
             simp only [Act.put, List.setIfInBounds_toArray, List.set_cons_zero, List.set_cons_succ])
          | (with_reducible apply rel_yes
             focus (exact rfl))
          | (with_reducible apply rel_no
             focus (exact rfl)
             simp only [Act.put, List.setIfInBounds_toArray, List.set_cons_zero, List.set_cons_succ])
          | (with_reducible apply rel_askF
             focus (exact rfl)
             all_goals (intro hb; simp only [hb, Act.put, List.setIfInBounds_toArray, List.set_cons_zero, List.set_cons_succ]))
          | (with_reducible apply rel_askT
             focus (exact rfl)
             all_goals (intro hb; simp only [hb, Act.put, List.setIfInBounds_toArray, List.set_cons_zero, List.set_cons_succ]))
          | (with_reducible apply rel_front1)
          | (with_reducible apply rel_front2)
          | (with_reducible apply rel_front3)
          | (with_reducible apply rel_front4)
          | (with_reducible apply rel_front5)
          | (with_reducible apply rel_front6))
        apply rel_nil
        simp only [Exit.then, Exit.inBlock]
        clear hS
        go_wp2_with fail
        go_ret
        exact ⟨by simp, HS3.out.b⟩
set_option maxHeartbeats 2000000 in
theorem rise_S (l : List S45) (A : Option Addr) (c : Nat) (w : World) (hr : Kd.C k45 w A l.length l) :
    Calls Tryd.prog 49 #[.slice A l.length c, .func (.func 50) #[] #[]] w fun e w' => e = .returned (.bool (riseB S45.f0 l)) ∧ Below w.heap.size w w' := by
  have hl : l.length ≤ 9223372036854775807 := hr.2.1
  have HR := Lib.hid hr
  have HP := Lib.hid (fun x y v W => hom_calls x y v W)
  have eg : ∀ args w, (callFunc 50 args).run Tryd.prog w = .ok (.enter 50 args) w := enters_of Tryd.func50 (by kernel_rfl) rfl
  clear hr
  go_enter Tryd.func49, Tryd.ntmps49
  go_wp2_with fail
  go_loopw [5] (fun i wr => ∃ k : Nat, (k + 1 ≤ l.length ∨ k = 0) ∧ i = .int .i64 ((k + 1 : Nat) : Int) ∧ Hid (Below w.heap.size w wr) ∧ Hid (riseB S45.f0 (l.drop k) = riseB S45.f0 l)) (fun i _ => l.length - (intOf i).toNat)
  case atStart => exact ⟨0, Or.inr rfl, rfl, Below.refl _ _, rfl⟩
  case round =>
    obtain ⟨k, hk, rfl, hB, hno⟩ := hrel
    by_cases hlt : k + 1 < l.length
    · obtain ⟨x, hx⟩ : ∃ x, rd_T45 l (k : Int) = x := ⟨_, rfl⟩
      obtain ⟨y, hy⟩ : ∃ y, rd_T45 l ((k + 1 : Nat) : Int) = y := ⟨_, rfl⟩
      have hg : l[k] = x := (rd_getS (by omega)).symm.trans hx
      have hg2 : l[k + 1] = y := (rd_getS (by omega)).symm.trans hy
      have hd : l.drop k = x :: l.drop (k + 1) := by rw [List.drop_eq_getElem_cons (by omega), hg]
      have hd2 : l.drop (k + 1) = y :: l.drop (k + 1 + 1) := by rw [List.drop_eq_getElem_cons (by omega), hg2]
      have hs := hno.out
      rw [hd, hd2, riseB, ← hd2] at hs
      obtain ⟨ad, A2, c2, rfl, h0, h1, h2, -, -⟩ := at_T45 HR.out (k : Int) (by omega) (by omega)
      obtain ⟨ad', A3, c3, e', h3, h4, h5, -, -⟩ := at_T45 HR.out ((k + 1 : Nat) : Int) (by omega) (by omega)
      cases e'
      rw [hx] at h0 h1 h2
      rw [hy] at h3 h4 h5
      simp only [Int.toNat_natCast] at h0 h1 h2 h3 h4 h5
      have HS := Lib.hid hs
      have hw1 : IntKind.i64.wrap (k : Int) = (k : Int) := by rw [IntKind.wrap_i64]; omega
      have hk1 : (k : Int) < (l.length : Int) := by omega
      have hS : ∀ W, Held (Below w.heap.size w) W → W.cell? (ad.add (k * 3)) = some (.int .i64 x.f0) ∧ W.cell? ⟨(ad.add (k * 3)).block, (ad.add (k * 3)).off + 1, none⟩ = some (.int .i64 x.f1) ∧ W.cell? ⟨(ad.add (k * 3)).block, (ad.add (k * 3)).off + 2, none⟩ = some (.slice A2 x.f2.length c2) ∧ W.cell? (ad.add ((k + 1) * 3)) = some (.int .i64 y.f0) ∧ W.cell? ⟨(ad.add ((k + 1) * 3)).block, (ad.add ((k + 1) * 3)).off + 1, none⟩ = some (.int .i64 y.f1) ∧ W.cell? ⟨(ad.add ((k + 1) * 3)).block, (ad.add ((k + 1) * 3)).off + 2, none⟩ = some (.slice A3 y.f2.length c3) := fun W hW => by
        have hW' : Below w.heap.size w W := hW
        exact ⟨(hW'.cell (World.block_lt_of_cell? w _ h0)).trans h0, (hW'.cell (World.block_lt_of_cell? w _ h1)).trans h1, (hW'.cell (World.block_lt_of_cell? w _ h2)).trans h2, (hW'.cell (World.block_lt_of_cell? w _ h3)).trans h3, (hW'.cell (World.block_lt_of_cell? w _ h4)).trans h4, (hW'.cell (World.block_lt_of_cell? w _ h5)).trans h5⟩
      clear hs hno hg hg2 hd hd2 hx hy h0 h1 h2 h3 h4 h5
      go_wp2_with fail
      refine wp_region_auto (Below w.heap.size w) ((0, none, none) :: (0, none, none) :: (0, none, none) :: (0, none, none) :: (0, none, none) :: (0, none, none) :: (1, none, none) :: (1, none, none) :: (1, none, none) :: (1, none, none) :: (1, none, none) :: (0, none, some true) :: (0, none, some true) :: (0, none, none) :: []) (by kernel_rfl) (by kernel_rfl) (fun _ _ d _ _ h => by cases d <;> exact h) hB.out.drew ?_
      repeat' (first
        | (with_reducible apply rel_pass
           focus (intro W hW; first | (go_simp; exact rfl) | go_simp)
           simp only [Act.put, List.setIfInBounds_toArray, List.set_cons_zero, List.set_cons_succ])
        | (with_reducible apply rel_yes
           focus (exact rfl))
        | (with_reducible apply rel_no
           focus (exact rfl)
           simp only [Act.put, List.setIfInBounds_toArray, List.set_cons_zero, List.set_cons_succ])
        | (with_reducible apply rel_askF
           focus (exact rfl)
           all_goals (intro hb; simp only [hb, Act.put, List.setIfInBounds_toArray, List.set_cons_zero, List.set_cons_succ]))
        | (with_reducible apply rel_askT
           focus (exact rfl)
           all_goals (intro hb; simp only [hb, Act.put, List.setIfInBounds_toArray, List.set_cons_zero, List.set_cons_succ]))
        | (with_reducible apply rel_front1)
        | (with_reducible apply rel_front2)
        | (with_reducible apply rel_front3)
        | (with_reducible apply rel_front4)
        | (with_reducible apply rel_front5)
        | (with_reducible apply rel_front6))
      with_reducible apply rel_act
      intro K hK
      go_simp
      refine (HP.out _ _ _ _).mono ?_
      rintro e w1 ⟨rfl, hb⟩
      have HB1 := Lib.hid (hB.out.drew.trans (Below.mono hb hB.out.drew.size))
      clear hb
      refine hK _ _ ⟨fun _ => HB1.out, ?_⟩
      clear hK K
      try simp only [Act.put, List.setIfInBounds_toArray, List.set_cons_zero, List.set_cons_succ]
      repeat' (first
        | (with_reducible apply rel_pass
           focus (intro W hW; first | (go_simp; exact rfl) | go_simp)
           simp only [Act.put, List.setIfInBounds_toArray, List.set_cons_zero, List.set_cons_succ])
        | (with_reducible apply rel_yes
           focus (exact rfl))
        | (with_reducible apply rel_no
           focus (exact rfl)
           simp only [Act.put, List.setIfInBounds_toArray, List.set_cons_zero, List.set_cons_succ])
        | (with_reducible apply rel_askF
           focus (exact rfl)
           all_goals (intro hb; simp only [hb, Act.put, List.setIfInBounds_toArray, List.set_cons_zero, List.set_cons_succ]))
        | (with_reducible apply rel_askT
           focus (exact rfl)
           all_goals (intro hb; simp only [hb, Act.put, List.setIfInBounds_toArray, List.set_cons_zero, List.set_cons_succ]))
        | (with_reducible apply rel_front1)
        | (with_reducible apply rel_front2)
        | (with_reducible apply rel_front3)
        | (with_reducible apply rel_front4)
        | (with_reducible apply rel_front5)
        | (with_reducible apply rel_front6))
      with_reducible apply rel_act
      intro K hK
      go_simp
      refine (HP.out _ _ _ _).mono ?_
      rintro e w2 ⟨rfl, hb⟩
      have HB2 := Lib.hid (HB1.out.trans (Below.mono hb HB1.out.size))
      clear hb
      refine hK _ _ ⟨fun _ => HB2.out, ?_⟩
      clear hK K
      try simp only [Act.put, List.setIfInBounds_toArray, List.set_cons_zero, List.set_cons_succ]
      repeat' (first
        | (with_reducible apply rel_pass
           focus (intro W hW; first | (go_simp; exact rfl) | go_simp)
           simp only [Act.put, List.setIfInBounds_toArray, List.set_cons_zero, List.set_cons_succ])
        | (with_reducible apply rel_yes
           focus (exact rfl))
        | (with_reducible apply rel_no
           focus (exact rfl)
           simp only [Act.put, List.setIfInBounds_toArray, List.set_cons_zero, List.set_cons_succ])
        | (with_reducible apply rel_askF
           focus (exact rfl)
           all_goals (intro hb; simp only [hb, Act.put, List.setIfInBounds_toArray, List.set_cons_zero, List.set_cons_succ]))
        | (with_reducible apply rel_askT
           focus (exact rfl)
           all_goals (intro hb; simp only [hb, Act.put, List.setIfInBounds_toArray, List.set_cons_zero, List.set_cons_succ]))
        | (with_reducible apply rel_front1)
        | (with_reducible apply rel_front2)
        | (with_reducible apply rel_front3)
        | (with_reducible apply rel_front4)
        | (with_reducible apply rel_front5)
        | (with_reducible apply rel_front6))
      apply rel_nil
      simp only [Exit.then, Exit.inBlock]
      clear hS
      by_cases hxy : x.f0 < y.f0
      · have d : ¬ y.f0 ≤ x.f0 := by omega
        have hs := HS.out
        rw [decide_eq_true hxy, Bool.true_and] at hs
        have HS2 := Lib.hid hs
        clear hs hxy
        go_wp2_with fail
        refine ⟨⟨k + 1, Or.inl (by omega), congrArg (Value.int .i64) (by omega), HB2.out, HS2.out⟩, ?_⟩
        simp only [intOf]
        omega
      · have d : y.f0 ≤ x.f0 := by omega
        have hs := HS.out
        rw [decide_eq_false hxy, Bool.false_and] at hs
        have HS2 := Lib.hid hs
        clear hs hxy
        go_wp2_with fail
        go_ret
        exact ⟨by rw [← HS2.out]; rfl, HB2.out⟩
    · have hs := hno.out
      have e : riseB S45.f0 (l.drop k) = true := by
        have : (l.drop k).length ≤ 1 := by rw [List.length_drop]; omega
        match h : l.drop k with
        | [] => rfl
        | [_] => rfl
        | _ :: _ :: _ => rw [h] at this; simp at this
      rw [e] at hs
      have HS := Lib.hid hs
      clear hs hno e
      go_wp2_with fail
      go_ret
      exact ⟨by rw [← HS.out]; rfl, hB.out⟩
def statement_isAll.f (l0 : List (S45)) : Option (Bool) := some (allB l0)
set_option maxHeartbeats 2000000 in
theorem statement_isAll.calls (A0 : Option Addr) (c0 : Nat) (l0 : List (S45)) (r : Bool) (w : World) (hr0 : Kd.C k45 w A0 l0.length l0) (hc0 : l0.length ≤ c0) (h : statement_isAll.f l0 = some r) :
    Calls Tryd.prog 25 #[.slice A0 l0.length c0] w fun e w' => e = .returned (.bool r) ∧ Below w.heap.size w w' := by
  obtain rfl := Option.some.inj h
  have hl : l0.length ≤ 9223372036854775807 := hr0.2.1
  have H0 := Lib.hid (fun W => statement_between.calls (l0.length : Int) 1 64 _ W (between_f _ _ _))
  have hany : l0.any (fun x => !okS (rd_T45 l0 0).f1 x) = !l0.all (okS (rd_T45 l0 0).f1) := by rw [List.not_all_eq_any_not]
  have C2 := Lib.hid (fun W (hW : Below w.heap.size w W) => rise_S l0 A0 c0 W (Kd.C_below hr0 hW))
  have C1 := Lib.hid (fun W (hW : Below w.heap.size w W) (B : Nat) (hB : W.cell? ⟨B, 0, none⟩ = some (.slice A0 l0.length c0)) (hn : 0 < l0.length) =>
    contains_S (g := 45) (cap := #[.pointer (some ⟨B, 0, none⟩)]) (fun x => !okS (rd_T45 l0 0).f1 x) l0 A0 c0 W (Kd.C_below hr0 hW)
      (fun x V _ hV A2 c2 hle hC => oddS_pred x A2 c2 B A0 c0 l0 V hle hC ((hV.cell (World.block_lt_of_cell? W _ hB)).trans hB) (Kd.C_below hr0 (hW.trans (Below.mono hV hW.size))) hn) (enters_of Tryd.func45 (by kernel_rfl) rfl))
  rw [hany] at C1
  unfold allB
  clear h hany hr0
  obtain ⟨b0, hb0⟩ : ∃ b, btw (l0.length : Int) 1 64 = b := ⟨_, rfl⟩
  have hpos : b0 = true → 0 < l0.length := fun hb => by
    rw [hb] at hb0
    simp only [btw, Bool.and_eq_true, decide_eq_true_eq] at hb0
    omega
  rw [hb0] at H0 ⊢
  generalize l0.all (okS (rd_T45 l0 0).f1) = b1 at *
  generalize riseB S45.f0 l0 = b2 at *
  clear hb0
  go_enter Tryd.func25, Tryd.ntmps25
  go_wp2_with fail
  obtain ⟨hx, hsz, hbw⟩ := Blk.box w 26 [Value.slice A0 l0.length c0]
  rw [show (List.toArray [Value.slice A0 l0.length c0]) = #[Value.slice A0 l0.length c0] from rfl] at hx hsz hbw
  generalize w.alloc (Obj.cells #[Value.slice A0 l0.length c0] 26) = w1 at hx hsz hbw ⊢
  have HB1 := Lib.hid hbw
  have HX1 := Lib.hid hx
  clear hx hsz hbw
  refine (H0.out _).mono ?_
  rintro e w2 ⟨rfl, hd⟩
  have HB2 := Lib.hid (show Below w.heap.size w w2 from HB1.out.trans (Below.mono hd.below HB1.out.size))
  have HX2 := Lib.hid (HX1.out.below hd.below HX1.out.lt)
  have cell0 := HX2.out.cell 0 _ rfl
  clear hd HB1
  cases b0 with
  | false =>
    clear hpos
    go_wp2_with fail
    go_ret
    exact ⟨rfl, HB2.out⟩
  | true =>
    have HPOS := Lib.hid (hpos rfl)
    clear hpos
    go_wp2_with fail
    refine (C1.out w2 HB2.out w.heap.size (HX2.out.cell 0 _ rfl) HPOS.out).mono ?_
    rintro e w3 ⟨rfl, hd⟩
    have HB3 := Lib.hid (show Below w.heap.size w w3 from HB2.out.trans (Below.mono hd HB2.out.size))
    have cell1 := (HX2.out.below hd HX2.out.lt).cell 0 _ rfl
    clear hd cell0
    cases b1 with
    | false =>
      go_wp2_with fail
      go_ret
      exact ⟨rfl, HB3.out⟩
    | true =>
      go_wp2_with fail
      refine (C2.out w3 HB3.out).mono ?_
      rintro e w4 ⟨rfl, hd⟩
      have HB4 := Lib.hid (show Below w.heap.size w w4 from HB3.out.trans (Below.mono hd HB3.out.size))
      clear hd
      go_wp2_with fail
      go_ret
      exact ⟨by simp, HB4.out⟩
end Go.Proofs.YtkdckjafhaadiaaDoor.P
/- statement.commitments and statement.commit: the commitments to lines. -/
set_option linter.unusedSimpArgs false
set_option linter.unusedVariables false
namespace Go.Proofs.YtkdckjafhaadiaaDoor.P
open Go Go.RowKit Go.Proofs.YtkdckjafhaadiaaDoorW.PrintWords Go.Proofs.YtkdckjafhaadiaaDoorW.PrintLast Go.Proofs.YtkdckjafhaadiaaDoorW.PrintMore Go.Proofs.YtkdckjafhaadiaaDoor.Ord

theorem info_i64 : (Tryd.prog.info? 3).map (fun i => (i.zero, i.size, i.bytes)) = some (some (.int .i64 0), 1, 8) := by kernel_rfl
set_option maxHeartbeats 1000000 in
theorem com1_calls (x : S50) (h : Int) (B : Nat) (W : World) (hB : W.cell? ⟨B, 0, none⟩ = some (.int .i64 h)) (hx : lineB x = true) :
    Calls Tryd.prog 64 #[.agg #[.int .i64 x.f0, .int .i64 x.f1, .int .i64 x.f2], .pointer (some ⟨B, 0, none⟩)] W fun e W' => e = .returned (.int .i64 (cmI h x)) ∧ Below W.heap.size W W' := by
  have HL := Lib.hid (line_parts hx)
  obtain ⟨⟨r1, r2⟩, hv⟩ : ∃ v, comV h (Int.tmod (wrap64 (x.f1 + 1073741789)) 1073741789) x.f2 = v := ⟨_, rfl⟩
  have hr : cmI h x = r1 := by unfold cmI; rw [hv]
  have H0 := Lib.hid (fun W => group_Commit.calls 100 h (Int.tmod (wrap64 (x.f1 + 1073741789)) 1073741789) x.f2 r1 r2 W (by rw [commit_f _ _ _ _ (by omega), hv]))
  rw [hr]
  have hb : ∀ o, (W.alloc o).cell? ⟨B, 0, none⟩ = some (.int .i64 h) := fun o => (((Below.refl W.heap.size W).alloc (Nat.le_refl _) o).cell (World.block_lt_of_cell? W _ hB)).trans hB
  obtain ⟨x0, x1, x2⟩ := x
  simp only at *
  clear hv hr hx
  go_enter Tryd.func64, Tryd.ntmps64
  go_wp2_with fail
  refine (H0.out _).mono ?_
  rintro e w1 ⟨rfl, hb1⟩
  have HB := Lib.hid (((Below.refl _ W).alloc (Nat.le_refl _) _).trans (Below.mono hb1 (by simp)))
  clear hb1 hb
  go_wp2_with fail
  go_ret
  exact ⟨rfl, HB.out⟩
set_option maxHeartbeats 1000000 in
theorem comms_calls (h : Int) (W : World) : Calls Tryd.prog 57 #[.int .i64 h] W fun e W' => e = .returned (.func (.func 64) #[] #[.pointer (some ⟨W.heap.size, 0, none⟩)]) ∧ Below W.heap.size W W' ∧ Blk W' W.heap.size 3 [.int .i64 h] := by
  go_enter Tryd.func57, Tryd.ntmps57
  go_wp2_with fail
  go_ret
  exact ⟨rfl, (Below.refl _ W).alloc (Nat.le_refl _) _, Blk.new W _ _⟩
set_option maxHeartbeats 2000000 in
theorem commit_calls (h : Int) (A : Option Addr) (c : Nat) (l : List S50) (w : World) (hr : Kd.C k50 w A l.length l) (hl : l.all lineB = true) (hn : l.length ≤ 100000) :
    Calls Tryd.prog 32 #[.int .i64 h, .slice A l.length c] w fun e w' => ∃ v, e = .returned v ∧ Kd.R (Kd.int .i64) 3 w' w.heap.size (fun _ => True) v (cmL h l) ∧ Below w.heap.size w w' := by
  have HR := Lib.hid hr
  have HL := Lib.hid hl
  have HN := Lib.hid hn
  have hl2 : l.length ≤ 9223372036854775807 := hr.2.1
  have HP := Lib.hid (fun x B W hB hx => com1_calls x h B W hB hx)
  have eg : ∀ args w, (callFunc 64 args).run Tryd.prog w = .ok (.enter 64 args) w := enters_of Tryd.func64 (by kernel_rfl) rfl
  have huI := Tryd.underlying43
  clear hr hl
  go_enter Tryd.func32, Tryd.ntmps32
  go_wp2_with fail
  refine (comms_calls h w).mono ?_
  rintro e w1 ⟨rfl, hb, hbk⟩
  have HB1 := Lib.hid hb
  have HK1 := Lib.hid hbk
  clear hb hbk
  go_wp2_with fail
  go_loopw [5, 13] (fun v i wr => ∃ k : Nat, k ≤ l.length ∧ i = .int .i64 k ∧ Hid (Kd.R (Kd.int .i64) 3 wr w.heap.size (fun k => k ≠ w.heap.size) v (cmL h (l.take k))) ∧ Hid (Below w.heap.size w wr) ∧ Hid (Blk wr w.heap.size 3 [.int .i64 h])) (fun _ i _ => l.length - (intOf i).toNat)
  case atStart => exact ⟨0, Nat.zero_le _, rfl, Kd.R_nil _ _ _ _ _, HB1.out, HK1.out⟩
  case round =>
    obtain ⟨k, hk, rfl, hR, hB, hK⟩ := hrel
    by_cases hlt : k < l.length
    · obtain ⟨x, hx⟩ : ∃ x, rd_T50 l (k : Int) = x := ⟨_, rfl⟩
      have hg : l[k] = x := (rd_getL hlt).symm.trans hx
      have hxl : lineB x = true := List.all_eq_true.1 HL.out x (by rw [← hg]; exact List.getElem_mem hlt)
      obtain ⟨ad, rfl, h0, h1, h2⟩ := at_T50 (Kd.C_below HR.out hB.out) (k : Int) (by omega) (by omega)
      rw [hx] at h0 h1 h2
      simp only [Int.toNat_natCast] at h0 h1 h2
      have HT := Lib.hid (show cmL h (l.take (k + 1)) = cmL h (l.take k) ++ [cmI h x] by unfold cmL; rw [List.take_succ_eq_append_getElem hlt, List.map_append, hg]; rfl)
      have HXL := Lib.hid hxl
      have HG := Lib.hid hg
      clear hx hg hxl
      go_wp2_with fail
      have hbw : Below wr.heap.size wr (wr.alloc (Obj.cells #[Value.int IntKind.i64 x.f0, Value.int IntKind.i64 x.f1, Value.int IntKind.i64 x.f2] 50)) := (Below.refl _ wr).alloc (Nat.le_refl _) _
      generalize wr.alloc (Obj.cells #[Value.int IntKind.i64 x.f0, Value.int IntKind.i64 x.f1, Value.int IntKind.i64 x.f2] 50) = w4 at hbw ⊢
      have HK4 := Lib.hid (hK.out.below hbw hK.out.lt)
      refine (HP.out x w.heap.size w4 (HK4.out.cell 0 _ rfl) HXL.out).mono ?_
      rintro e w5 ⟨rfl, hb5⟩
      have hR5 := Kd.R_below (Kd.R_below hR.out hbw) hb5
      have hB5 : Below w.heap.size w w5 := hB.out.trans (Below.mono (hbw.trans (Below.mono hb5 hbw.size)) hB.out.size)
      have hK5 := HK4.out.below hb5 HK4.out.lt
      have hlx : (cmL h (l.take k)).length ≤ 100000 := by rw [cmL_len, List.length_take]; omega
      have HRK := Lib.hid (And.intro hR5 (And.intro hB5 (And.intro hK5 hlx)))
      clear hR hB hK hbw hb5 hR5 hB5 hK5 hlx HK4 h0 h1 h2
      generalize cmI h x = cx at *
      generalize cmL h (l.take k) = xs at *
      go_wp2_with (at_builtin; refine Kd.R_append (Kd.int .i64) (w0 := w) w.heap.size rfl (.tmp 17) (.tmp 21) 43 3 (.int .i64 0) 8 rfl huI info_i64 rfl (by decide) (by omega) _ xs cx [.int .i64 cx] (fun k => k ≠ w.heap.size) (fun _ => False) rfl (by first | rfl | go_simp) ?aP (fun _ hk => hk.elim) ?aF ?aO ?aB ?aS ?aL ?_; (case aP => exact rfl); (case aF => exact fun k hk e => by have := HRK.out.2.1.size; have := HRK.out.2.2.1.lt; omega); (case aO => exact HRK.out.1); (case aB => exact HRK.out.2.1); (case aS => exact HRK.out.2.1.size); (case aL => have := HRK.out.2.2.2; omega); intro v3 w3 ho hb3 hg hat; have HK := Lib.hid (And.intro ho (And.intro hb3 (HRK.out.2.2.1.grown hg (Kd.R_away HRK.out.1 (fun k hk => hk))))); clear ho hb3 hg hat HRK)
      go_roundw
      case rel => exact ⟨k + 1, by omega, by go_num, by rw [HT.out]; exact HK.out.1, HK.out.2.1, HK.out.2.2⟩
      case measure => simp [intOf]; omega
    · obtain rfl : k = l.length := by omega
      have hRR := hR.out
      rw [List.take_length] at hRR
      have HRR := Lib.hid hRR
      clear hRR hR
      go_wp2_with fail
      go_ret
      exact ⟨_, rfl, Kd.R_mono HRR.out (fun _ _ => trivial), hB.out⟩
def statement_commit.f (a0 : Int) (l1 : List (S50)) : Option (List Int) := if l1.all lineB = true ∧ l1.length ≤ 100000 then some (cmL a0 l1) else none
theorem statement_commit.calls (a0 : Int) (A1 : Option Addr) (c1 : Nat) (l1 : List (S50)) (r : List Int) (w : World) (hr1 : Kd.C k50 w A1 l1.length l1) (hc1 : l1.length ≤ c1) (h : statement_commit.f a0 l1 = some r) :
    Calls Tryd.prog 32 #[.int .i64 a0, .slice A1 l1.length c1] w fun e w' => ∃ v0_ : Value, e = .returned (v0_) ∧ Kd.R (Kd.int .i64) 3 w' w.heap.size (fun _ => True) v0_ r ∧ Below w.heap.size w w' := by
  unfold statement_commit.f at h
  by_cases hx : l1.all lineB = true ∧ l1.length ≤ 100000
  · rw [if_pos hx] at h
    obtain rfl := Option.some.inj h
    exact commit_calls a0 A1 c1 l1 w hr1 hx.1 hx.2
  · rw [if_neg hx] at h
    cases h
theorem commit_lines {h : Int} {l : List S50} (hl : linesB l = true) : statement_commit.f h l = some (cmL h l) := by
  simp only [linesB, Bool.and_eq_true, decide_eq_true_eq] at hl
  unfold statement_commit.f
  rw [if_pos ⟨hl.2.1, by omega⟩]
end Go.Proofs.YtkdckjafhaadiaaDoor.P
