/- observations: a model, and whether what was seen is valid. -/
import Derived.Test.YtjdhnhfglpogmaaXvalues
set_option linter.unusedSimpArgs false
set_option linter.unusedVariables false
namespace Go.Proofs.Ytjdhnhfglpogmaa.P
open Go.RowKit Go.Proofs.YtjdhnhfglpogmaaW.PrintWords Go.Proofs.YtjdhnhfglpogmaaW.PrintLast Go.Proofs.YtjdhnhfglpogmaaW.PrintMore

def dayB (d : Int) : Bool := decide (0 ≤ d) && decide (d ≤ 36524)
def oddB (n : Nat) (s : S48) : Bool := decide (s.f0 < 0) || decide ((n : Int) ≤ s.f0) || !(dayB s.f2)
theorem isDay_calls (d : Int) (w : World) : Calls Try.prog 47 #[.int .i64 d] w fun e w' => e = .returned (.bool (dayB d)) ∧ w = w' := by
  unfold dayB
  by_cases h : 0 ≤ d
  · have h1 : decide (0 ≤ d) = true := decide_eq_true h
    go_enter Try.func47, Try.ntmps47
    go_wp2
    go_ret
    exact ⟨by simp [h], rfl⟩
  · have h1 : decide (0 ≤ d) = false := decide_eq_false h
    go_enter Try.func47, Try.ntmps47
    go_wp2
    go_ret
    exact ⟨by simp [h], rfl⟩
theorem odd_calls (s : S48) (n B c : Nat) (A : Option Addr) (w : World) (hB : w.cell? ⟨B, 0, none⟩ = some (.slice A n c)) :
    Calls Try.prog 46 #[.agg #[.int .i64 s.f0, .bool s.f1, .int .i64 s.f2], .pointer (some ⟨B, 0, none⟩)] w fun e w' => e = .returned (.bool (oddB n s)) ∧ Below w.heap.size w w' := by
  have hu48 := Try.underlying48
  have hlt := World.block_lt_of_cell? w _ hB
  have hB2 : ∀ o, (w.alloc o).cell? ⟨B, 0, none⟩ = some (.slice A n c) := fun o => (Below.cell (Below.alloc (Below.refl _ _) (Nat.le_refl _) o) hlt).trans hB
  have hd := Lib.hid (isDay_calls s.f2)
  unfold oddB
  go_enter Try.func46, Try.ntmps46
  go_wp2_with fail
  · refine (hd.out _).mono ?_
    rintro e w' ⟨rfl, rfl⟩
    go_wp2_with fail
    go_ret
    exact ⟨by first | rfl | simp, below_alloc (Below.refl _ _) _⟩
  · go_ret
    exact ⟨by first | rfl | simp, below_alloc (Below.refl _ _) _⟩
  · go_ret
    exact ⟨by first | rfl | simp, below_alloc (Below.refl _ _) _⟩

def idxF {α : Type} (p : α → Bool) : List α → Nat → Option Nat
  | [], _ => none
  | x :: r, i => if p x then some i else idxF p r (i + 1)
def idxI {α : Type} (p : α → Bool) (l : List α) : Int := match idxF p l 0 with | none => -1 | some i => (i : Int)
theorem idxF_any {α : Type} (p : α → Bool) : ∀ (l : List α) (i : Nat), (idxF p l i).isSome = l.any p
  | [], _ => rfl
  | x :: r, i => by
    simp only [idxF, List.any_cons]
    cases h : p x
    · simp [idxF_any p r (i + 1)]
    · simp
theorem idxI_any {α : Type} (p : α → Bool) (l : List α) : decide (0 ≤ idxI p l) = l.any p := by
  unfold idxI
  rw [← idxF_any p l 0]
  cases idxF p l 0 <;> simp
/-- From k on, nothing having been found before. -/
theorem idxF_hit {α : Type} (p : α → Bool) : ∀ (l : List α) (i k : Nat) (x : α), l[k]? = some x → p x = true → (∀ (j : Nat) (y : α), j < k → l[j]? = some y → p y = false) → idxF p l i = some (i + k)
  | [], i, k, x, h, _, _ => by simp at h
  | y :: r, i, 0, x, h, hp, _ => by
    simp at h
    subst h
    simp [idxF, hp]
  | y :: r, i, k + 1, x, h, hp, hn => by
    have h0 := hn 0 y (by omega) rfl
    simp only [idxF, h0]
    rw [idxF_hit p r (i + 1) k x (by simpa using h) hp (fun j z hj hz => hn (j + 1) z (by omega) (by simpa using hz))]
    simp
    omega
theorem idxF_miss {α : Type} (p : α → Bool) : ∀ (l : List α) (i : Nat), (∀ (j : Nat) (y : α), l[j]? = some y → p y = false) → idxF p l i = none
  | [], _, _ => rfl
  | y :: r, i, hn => by
    simp only [idxF, hn 0 y rfl]
    exact idxF_miss p r (i + 1) (fun j z hz => hn (j + 1) z (by simpa using hz))

set_option maxHeartbeats 1000000 in
theorem index_calls (l : List S48) (n B c d : Nat) (A F : Option Addr) (w : World) (hr : Kd.C k48 w A l.length l) (hB : w.cell? ⟨B, 0, none⟩ = some (.slice F n d)) :
    Calls Try.prog 49 #[.slice A l.length c, .func (.func 46) #[] #[.pointer (some ⟨B, 0, none⟩)]] w fun e w' => e = .returned (.int .i64 (idxI (oddB n) l)) ∧ Below w.heap.size w w' := by
  have HR := Lib.hid hr
  have hlb := World.block_lt_of_cell? w _ hB
  have HB := Lib.hid hB
  have hl63 : l.length ≤ 9223372036854775807 := hr.2.1
  have hu48 := Try.underlying48
  clear hr hB
  go_enter Try.func49, Try.ntmps49
  go_wp2_with fail
  go_loopw [8] (fun i wr => ∃ k : Nat, k ≤ l.length ∧ i = .int .i64 k ∧ Hid (∀ (j : Nat) (y : S48), j < k → l[j]? = some y → oddB n y = false) ∧ Below w.heap.size w wr) (fun i _ => l.length - (intOf i).toNat)
  case atStart => exact ⟨0, Nat.zero_le _, rfl, fun j y h => by omega, Below.refl _ _⟩
  case round =>
    obtain ⟨k, hk, rfl, hN, hBw⟩ := hrel
    by_cases hlt : k < l.length
    · obtain ⟨ad, e, hx0, hx1, hx2⟩ := at_T48 HR.out (k : Int) (by omega) (by omega)
      cases e
      simp only [Int.toNat_natCast] at hx0 hx1 hx2
      replace hx0 := (hBw.cell (World.block_lt_of_cell? w _ hx0)).trans hx0
      replace hx1 := (hBw.cell (World.block_lt_of_cell? w _ hx1)).trans hx1
      replace hx2 := (hBw.cell (World.block_lt_of_cell? w _ hx2)).trans hx2
      have hxk : Hid (l[k]? = some (rd_T48 l k)) := by unfold Hid; simp [rd_T48, List.getD_eq_getElem?_getD, List.getElem?_eq_getElem hlt]
      generalize rd_T48 l (k : Int) = x at *
      have ho := Lib.hid (fun W => odd_calls x n B d F W)
      have hBr := Lib.hid ((hBw.cell hlb).trans HB.out)
      cases hp : oddB n x with
      | true =>
        rw [hp] at ho
        have HH : Hid (idxI (oddB n) l = k) := by unfold Hid idxI; rw [idxF_hit (oddB n) l 0 k x hxk.out hp hN.out]; simp
        clear hp
        go_wp2_with fail
        refine (ho.out _ hBr.out).mono ?_
        rintro e w' ⟨rfl, hb2⟩
        go_wp2_with fail
        go_ret
        exact ⟨by rw [HH.out]; rfl, below_step hBw hb2⟩
      | false =>
        rw [hp] at ho
        have HN2 : Hid (∀ (j : Nat) (y : S48), j < k + 1 → l[j]? = some y → oddB n y = false) := fun j y hj hy => by
          by_cases hjk : j < k
          · exact hN.out j y hjk hy
          · obtain rfl : j = k := by omega
            rw [hxk.out] at hy
            cases hy
            exact hp
        clear hp
        go_wp2_with fail
        refine (ho.out _ hBr.out).mono ?_
        rintro e w' ⟨rfl, hb2⟩
        go_wp2_with fail
        go_roundw
        case rel => exact ⟨k + 1, by omega, by go_num, HN2, below_step hBw hb2⟩
        case measure => simp [intOf]; omega
    · have HH : Hid (idxI (oddB n) l = -1) := by
        unfold Hid idxI
        rw [idxF_miss (oddB n) l 0 (fun j y hy => hN.out j y (by have := (List.getElem?_eq_some_iff.1 hy).1; omega) hy)]
      go_wp2_with fail
      go_ret
      exact ⟨by rw [HH.out]; rfl, hBw⟩
theorem contains_calls (l : List S48) (n B c d : Nat) (A F : Option Addr) (w : World) (hr : Kd.C k48 w A l.length l) (hB : w.cell? ⟨B, 0, none⟩ = some (.slice F n d)) :
    Calls Try.prog 48 #[.slice A l.length c, .func (.func 46) #[] #[.pointer (some ⟨B, 0, none⟩)]] w fun e w' => e = .returned (.bool (l.any (oddB n))) ∧ Below w.heap.size w w' := by
  have hi := Lib.hid (index_calls l n B c d A F w hr hB)
  have hl63 : l.length ≤ 9223372036854775807 := hr.2.1
  have HA := Lib.hid (idxI_any (oddB n) l)
  clear hr hB
  go_enter Try.func48, Try.ntmps48
  go_wp2_with fail
  refine hi.out.mono ?_
  rintro e w' ⟨rfl, hb⟩
  go_wp2_with fail
  go_ret
  exact ⟨by rw [← HA.out]; rfl, hb⟩

def seenB (n : Nat) (seen : List S48) (day : Int) : Bool := decide (seen.length ≤ 100) && !(seen.any (oddB n)) && dayB day
theorem obs_no (k : Nat) (l : List S44) (seen : List S48) (A S : Option Addr) (c d : Nat) (day : Int) (w : World) (hr : Kd.C k44 w A l.length l) (hc : l.length ≤ c) (hs : Kd.C k48 w S seen.length seen) (h : cause_Valid.f k l = some false) :
    Calls Try.prog 37 #[.slice A l.length c, .slice S seen.length d, .int .i64 day] w fun e w' => e = .returned (.tuple #[.pointer none, .bool false]) ∧ Below w.heap.size w w' := by
  have hn := Lib.hid (fun W hW => newModel_no k A c l W hW hc h)
  have HR := Lib.hid hr
  clear hr h hs
  go_enter Try.func37, Try.ntmps37
  go_wp2_with fail
  refine (hn.out _ (Kd.C_below HR.out (below_alloc (Below.refl _ _) _))).mono ?_
  rintro e w1 ⟨rfl, hb⟩
  have HB := Lib.hid (below_step (below_alloc (Below.refl w.heap.size w) _) hb)
  clear hb
  go_wp2_with fail
  go_ret2
  exact ⟨rfl, HB.out⟩
set_option maxHeartbeats 1000000 in
theorem obs_yes (k : Nat) (l : List S44) (seen : List S48) (A S : Option Addr) (c d : Nat) (day : Int) (w : World) (hr : Kd.C k44 w A l.length l) (hc : l.length ≤ c) (hs : Kd.C k48 w S seen.length seen) (h : cause_Valid.f k l = some true) (hlen : l.length ≤ 1000) :
    Calls Try.prog 37 #[.slice A l.length c, .slice S seen.length d, .int .i64 day] w fun e w' => ∃ g, e = .returned (.tuple #[.pointer (some ⟨g, 0, none⟩), .bool (seenB l.length seen day)]) ∧ IsM w' g l (freeOf l) ∧ w.heap.size ≤ g ∧ Below w.heap.size w w' := by
  have hn := Lib.hid (fun W hW => newModel_yes k A c l W hW hc h hlen)
  have HR := Lib.hid hr
  have HS := Lib.hid hs
  have hl63 : seen.length ≤ 9223372036854775807 := hs.2.1
  clear hr h hs
  unfold seenB
  have hall : ∀ (b1 b2 b3 : Bool), decide (seen.length ≤ 100) = b1 → seen.any (oddB l.length) = b2 → dayB day = b3 → Calls Try.prog 37 #[.slice A l.length c, .slice S seen.length d, .int .i64 day] w fun e w' => ∃ g, e = .returned (.tuple #[.pointer (some ⟨g, 0, none⟩), .bool (b1 && !b2 && b3)]) ∧ IsM w' g l (freeOf l) ∧ w.heap.size ≤ g ∧ Below w.heap.size w w' := by
    intro b1 b2 b3 h1 h2 h3
    have hct := Lib.hid (fun W hW B hB => contains_calls seen l.length B d c S A W hW hB)
    have hdy := Lib.hid (isDay_calls day)
    rw [h2] at hct
    rw [h3] at hdy
    have h1' : decide ((seen.length : Int) ≤ 100) = b1 := by rw [← h1]; simp; omega
    clear h2 h3
    cases b1 <;> cases b2
    all_goals
      go_enter Try.func37, Try.ntmps37
      go_wp2_with fail
      refine (hn.out _ (Kd.C_below HR.out (below_alloc (Below.refl _ _) _))).mono ?_
      rintro e w1 ⟨g, rfl, hM, hg, hb⟩
      have hB1 := below_step (below_alloc (Below.refl w.heap.size w) _) hb
      have hcell : w1.cell? ⟨w.heap.size, 0, none⟩ = some (.slice A l.length c) := (hb.cell (p := ⟨w.heap.size, 0, none⟩) (by simp)).trans (blk_cell (heap_alloc_new w _) 0)
      have HM := Lib.hid hM
      have HB1 := Lib.hid hB1
      have HC := Lib.hid hcell
      have hgs : w.heap.size ≤ g := by simp at hg; omega
      clear hM hB1 hcell hb hg
      go_wp2_with fail
    · go_ret2
      exact ⟨g, rfl, HM.out, hgs, HB1.out⟩
    · go_ret2
      exact ⟨g, rfl, HM.out, hgs, HB1.out⟩
    · refine (hct.out w1 (Kd.C_below HS.out HB1.out) _ HC.out).mono ?_
      rintro e w2 ⟨rfl, hb2⟩
      have HB2 := Lib.hid hb2
      clear hb2
      go_wp2_with fail
      refine (hdy.out w2).mono ?_
      rintro e w3 ⟨rfl, rfl⟩
      go_wp2_with fail
      go_ret2
      exact ⟨g, by simp, HM.out.below HB2.out, hgs, below_step HB1.out HB2.out⟩
    · refine (hct.out w1 (Kd.C_below HS.out HB1.out) _ HC.out).mono ?_
      rintro e w2 ⟨rfl, hb2⟩
      have HB2 := Lib.hid hb2
      clear hb2
      go_wp2_with fail
      go_ret2
      exact ⟨g, rfl, HM.out.below HB2.out, hgs, below_step HB1.out HB2.out⟩
  exact hall _ _ _ rfl rfl rfl
end Go.Proofs.Ytjdhnhfglpogmaa.P
