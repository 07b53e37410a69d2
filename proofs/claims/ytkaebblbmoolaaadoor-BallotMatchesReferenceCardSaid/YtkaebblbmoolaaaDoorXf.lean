/- slices.IndexFunc and ContainsFunc, at whole numbers and at encrypted votes: the function value may turn what its own is; what it answers at an element is told by the element's place. -/
import Derived.Test.YtkaebblbmoolaaaDoorGen
import Derived.Test.YtkaebblbmoolaaaDoorPx0
set_option linter.unusedSimpArgs false
set_option linter.unusedVariables false
namespace Go.Proofs.YtkaebblbmoolaaaDoor.P
open Go Go.RowKit Go.Proofs.YtkaebblbmoolaaaDoorW.PrintWords Go.Proofs.YtkaebblbmoolaaaDoorW.PrintLast Go.Proofs.YtkaebblbmoolaaaDoorW.PrintMore

/-- The first place from k on, of d places, where q holds; else -1. -/
def fstQ (q : Nat → Bool) : Nat → Nat → Int
  | 0, _ => -1
  | d + 1, k => if q k then k else fstQ q d (k + 1)
def hasQ (q : Nat → Bool) : Nat → Nat → Bool
  | 0, _ => false
  | d + 1, k => q k || hasQ q d (k + 1)
theorem fstQ_has (q : Nat → Bool) : ∀ d k, decide (0 ≤ fstQ q d k) = hasQ q d k
  | 0, k => rfl
  | d + 1, k => by
    unfold fstQ hasQ
    cases h : q k with
    | true => simp
    | false => simpa using fstQ_has q d (k + 1)
theorem hasQ_all {α : Type} (p : α → Bool) : ∀ (r l : List α) (q : Nat → Bool) (k : Nat), (∀ j x, r[j]? = some x → q (k + j) = !p x) → hasQ q r.length k = !r.all p
  | [], l, q, k, h => rfl
  | x :: r, l, q, k, h => by
    have h0 := h 0 x rfl
    rw [Nat.add_zero] at h0
    have ih := hasQ_all p r l q (k + 1) (fun j y hy => by have := h (j + 1) y (by simpa using hy); rwa [show k + (j + 1) = k + 1 + j from by omega] at this)
    show (q k || hasQ q r.length (k + 1)) = _
    rw [h0, ih, List.all_cons]
    cases p x <;> simp

set_option maxHeartbeats 1000000 in
theorem idx_int {g : Nat} {cap : Array Value} (q : Nat → Bool) (l : List Int) (A : Option Addr) (c : Nat) (w : World) (Inv : Nat → World → Prop) (hl : l.length ≤ 9223372036854775807)
    (hrd : ∀ k W x, l[k]? = some x → Inv k W → ∃ ad, A = some ad ∧ W.cell? (ad.add k) = some (.int .i64 x))
    (hp : ∀ k x W, l[k]? = some x → Inv k W → Calls Tryd.prog g (#[.int .i64 x] ++ cap) W fun e W' => e = .returned (.bool (q k)) ∧ Inv (k + 1) W')
    (eg : ∀ args w, (callFunc g args).run Tryd.prog w = .ok (.enter g args) w) (h0 : Inv 0 w) :
    Calls Tryd.prog 70 #[.slice A l.length c, .func (.func g) #[] cap] w fun e w' => e = .returned (.int .i64 (fstQ q l.length 0)) ∧ ∃ k, Inv k w' := by
  have H0 := Lib.hid h0
  have HRD := Lib.hid hrd
  have HP := Lib.hid hp
  clear h0 hrd hp
  go_enter Tryd.func70, Tryd.ntmps70
  go_wp2_with fail
  go_loopw [8] (fun i wr => ∃ k : Nat, k ≤ l.length ∧ i = .int .i64 k ∧ Inv k wr ∧ Hid (fstQ q (l.length - k) k = fstQ q l.length 0)) (fun i _ => l.length - (intOf i).toNat)
  case atStart => exact ⟨0, Nat.zero_le _, rfl, H0.out, rfl⟩
  case round =>
    obtain ⟨k, hk, rfl, hi, hno⟩ := hrel
    have HI := Lib.hid hi
    clear hi
    by_cases hlt : k < l.length
    · obtain ⟨x, hxk⟩ : ∃ x, l[k]? = some x := ⟨l[k], List.getElem?_eq_getElem hlt⟩
      obtain ⟨ad, rfl, hld⟩ := HRD.out k wr x hxk HI.out
      have hc := HP.out k x wr hxk HI.out
      have hs := hno.out
      rw [show l.length - k = (l.length - (k + 1)) + 1 from by omega, fstQ] at hs
      cases hpx : q k with
      | true =>
        rw [hpx] at hc
        rw [hpx, if_pos rfl] at hs
        have HS := Lib.hid hs
        clear hs hno hpx hxk
        go_wp2_with fail
        refine hc.mono ?_
        rintro e w' ⟨rfl, hx'⟩
        have HX := Lib.hid hx'
        clear hx' hc hld
        go_wp2
        go_ret
        exact ⟨by rw [HS.out]; rfl, _, HX.out⟩
      | false =>
        rw [hpx] at hc
        rw [hpx, if_neg (by decide)] at hs
        have HS := Lib.hid hs
        clear hs hno hpx hxk
        go_wp2_with fail
        refine hc.mono ?_
        rintro e w' ⟨rfl, hx'⟩
        have HX := Lib.hid hx'
        clear hx' hc hld
        go_wp2
        go_roundw
        case rel => exact ⟨k + 1, by omega, by go_num, HX.out, HS⟩
        case measure => simp [intOf]; omega
    · have hs := hno.out
      rw [show l.length - k = 0 from by omega, fstQ] at hs
      have HS := Lib.hid hs
      clear hs hno
      go_wp2
      go_ret
      exact ⟨by rw [← HS.out]; rfl, _, HI.out⟩
set_option maxHeartbeats 1000000 in
theorem contains_int {g : Nat} {cap : Array Value} (q : Nat → Bool) (l : List Int) (A : Option Addr) (c : Nat) (w : World) (Inv : Nat → World → Prop) (hl : l.length ≤ 9223372036854775807)
    (hrd : ∀ k W x, l[k]? = some x → Inv k W → ∃ ad, A = some ad ∧ W.cell? (ad.add k) = some (.int .i64 x))
    (hp : ∀ k x W, l[k]? = some x → Inv k W → Calls Tryd.prog g (#[.int .i64 x] ++ cap) W fun e W' => e = .returned (.bool (q k)) ∧ Inv (k + 1) W')
    (eg : ∀ args w, (callFunc g args).run Tryd.prog w = .ok (.enter g args) w) (h0 : Inv 0 w) :
    Calls Tryd.prog 62 #[.slice A l.length c, .func (.func g) #[] cap] w fun e w' => e = .returned (.bool (hasQ q l.length 0)) ∧ ∃ k, Inv k w' := by
  have C := Lib.hid (idx_int q l A c w Inv hl hrd hp eg h0)
  have HQ := Lib.hid (fstQ_has q l.length 0)
  clear h0 hrd hp
  go_enter Tryd.func62, Tryd.ntmps62
  go_wp2_with fail
  refine C.out.mono ?_
  rintro e w' ⟨rfl, k, hx⟩
  have HX := Lib.hid hx
  clear hx
  go_wp2_with fail
  go_ret
  exact ⟨by rw [← HQ.out]; rfl, k, HX.out⟩
set_option maxHeartbeats 1000000 in
theorem idx_c {g : Nat} {cap : Array Value} (q : Nat → Bool) (l : List S23) (A : Option Addr) (c : Nat) (w : World) (Inv : Nat → World → Prop) (hl : l.length ≤ 9223372036854775807)
    (hrd : ∀ k W x, l[k]? = some x → Inv k W → ∃ ad, A = some ad ∧ W.cell? (ad.add (k * 2)) = some (.int .i64 x.f0) ∧ W.cell? ⟨(ad.add (k * 2)).block, (ad.add (k * 2)).off + 1, none⟩ = some (.int .i64 x.f1))
    (hp : ∀ k x W, l[k]? = some x → Inv k W → Calls Tryd.prog g (#[.agg #[.int .i64 x.f0, .int .i64 x.f1]] ++ cap) W fun e W' => e = .returned (.bool (q k)) ∧ Inv (k + 1) W')
    (eg : ∀ args w, (callFunc g args).run Tryd.prog w = .ok (.enter g args) w) (h0 : Inv 0 w) :
    Calls Tryd.prog 68 #[.slice A l.length c, .func (.func g) #[] cap] w fun e w' => e = .returned (.int .i64 (fstQ q l.length 0)) ∧ ∃ k, Inv k w' := by
  have H0 := Lib.hid h0
  have HRD := Lib.hid hrd
  have HP := Lib.hid hp
  clear h0 hrd hp
  go_enter Tryd.func68, Tryd.ntmps68
  go_wp2_with fail
  go_loopw [8] (fun i wr => ∃ k : Nat, k ≤ l.length ∧ i = .int .i64 k ∧ Inv k wr ∧ Hid (fstQ q (l.length - k) k = fstQ q l.length 0)) (fun i _ => l.length - (intOf i).toNat)
  case atStart => exact ⟨0, Nat.zero_le _, rfl, H0.out, rfl⟩
  case round =>
    obtain ⟨k, hk, rfl, hi, hno⟩ := hrel
    have HI := Lib.hid hi
    clear hi
    by_cases hlt : k < l.length
    · obtain ⟨x, hxk⟩ : ∃ x, l[k]? = some x := ⟨l[k], List.getElem?_eq_getElem hlt⟩
      obtain ⟨ad, rfl, hld, hle⟩ := HRD.out k wr x hxk HI.out
      have hc := HP.out k x wr hxk HI.out
      have hs := hno.out
      rw [show l.length - k = (l.length - (k + 1)) + 1 from by omega, fstQ] at hs
      cases hpx : q k with
      | true =>
        rw [hpx] at hc
        rw [hpx, if_pos rfl] at hs
        have HS := Lib.hid hs
        clear hs hno hpx hxk
        go_wp2_with fail
        refine hc.mono ?_
        rintro e w' ⟨rfl, hx'⟩
        have HX := Lib.hid hx'
        clear hx' hc hld hle
        go_wp2
        go_ret
        exact ⟨by rw [HS.out]; rfl, _, HX.out⟩
      | false =>
        rw [hpx] at hc
        rw [hpx, if_neg (by decide)] at hs
        have HS := Lib.hid hs
        clear hs hno hpx hxk
        go_wp2_with fail
        refine hc.mono ?_
        rintro e w' ⟨rfl, hx'⟩
        have HX := Lib.hid hx'
        clear hx' hc hld hle
        go_wp2
        go_roundw
        case rel => exact ⟨k + 1, by omega, by go_num, HX.out, HS⟩
        case measure => simp [intOf]; omega
    · have hs := hno.out
      rw [show l.length - k = 0 from by omega, fstQ] at hs
      have HS := Lib.hid hs
      clear hs hno
      go_wp2
      go_ret
      exact ⟨by rw [← HS.out]; rfl, _, HI.out⟩
set_option maxHeartbeats 1000000 in
theorem contains_c {g : Nat} {cap : Array Value} (q : Nat → Bool) (l : List S23) (A : Option Addr) (c : Nat) (w : World) (Inv : Nat → World → Prop) (hl : l.length ≤ 9223372036854775807)
    (hrd : ∀ k W x, l[k]? = some x → Inv k W → ∃ ad, A = some ad ∧ W.cell? (ad.add (k * 2)) = some (.int .i64 x.f0) ∧ W.cell? ⟨(ad.add (k * 2)).block, (ad.add (k * 2)).off + 1, none⟩ = some (.int .i64 x.f1))
    (hp : ∀ k x W, l[k]? = some x → Inv k W → Calls Tryd.prog g (#[.agg #[.int .i64 x.f0, .int .i64 x.f1]] ++ cap) W fun e W' => e = .returned (.bool (q k)) ∧ Inv (k + 1) W')
    (eg : ∀ args w, (callFunc g args).run Tryd.prog w = .ok (.enter g args) w) (h0 : Inv 0 w) :
    Calls Tryd.prog 57 #[.slice A l.length c, .func (.func g) #[] cap] w fun e w' => e = .returned (.bool (hasQ q l.length 0)) ∧ ∃ k, Inv k w' := by
  have C := Lib.hid (idx_c q l A c w Inv hl hrd hp eg h0)
  have HQ := Lib.hid (fstQ_has q l.length 0)
  clear h0 hrd hp
  go_enter Tryd.func57, Tryd.ntmps57
  go_wp2_with fail
  refine C.out.mono ?_
  rintro e w' ⟨rfl, k, hx⟩
  have HX := Lib.hid hx
  clear hx
  go_wp2_with fail
  go_ret
  exact ⟨by rw [← HQ.out]; rfl, k, HX.out⟩
/-- Reading of rows, by place. -/
theorem read_int {w W : World} {A : Option Addr} {l : List Int} (h : Kd.C (Kd.int .i64) w A l.length l) (hb : Below w.heap.size w W) (k : Nat) (x : Int) (hk : l[k]? = some x) : ∃ ad, A = some ad ∧ W.cell? (ad.add k) = some (.int .i64 x) := by
  obtain ⟨hlt, hx⟩ := List.getElem?_eq_some_iff.1 hk
  obtain ⟨ad, c, e, _, hK, hc0⟩ := Kd.C_get (Kd.C_below h hb) (0 : Int) (k : Int) (by omega) (by omega)
  refine ⟨ad, e, ?_⟩
  have hx2 : l.getD (k : Int).toNat 0 = x := by simp [List.getD, hk]
  rw [hx2] at hK
  obtain rfl : c = [.int .i64 x] := hK
  have := hc0 0 _ rfl
  simpa [Kd.int, Kd.scalar] using this
theorem read_c {w W : World} {A : Option Addr} {l : List S23} (h : Kd.C k23 w A l.length l) (hb : Below w.heap.size w W) (k : Nat) (x : S23) (hk : l[k]? = some x) : ∃ ad, A = some ad ∧ W.cell? (ad.add (k * 2)) = some (.int .i64 x.f0) ∧ W.cell? ⟨(ad.add (k * 2)).block, (ad.add (k * 2)).off + 1, none⟩ = some (.int .i64 x.f1) := by
  obtain ⟨hlt, hx⟩ := List.getElem?_eq_some_iff.1 hk
  obtain ⟨ad, e, h0, h1⟩ := at_T23 (Kd.C_below h hb) (k : Int) (by omega) (by omega)
  have hx2 : rd_T23 l (k : Int) = x := by unfold rd_T23; simp [List.getD, hk]
  rw [hx2] at h0 h1
  exact ⟨ad, e, h0, h1⟩
end Go.Proofs.YtkaebblbmoolaaaDoor.P
