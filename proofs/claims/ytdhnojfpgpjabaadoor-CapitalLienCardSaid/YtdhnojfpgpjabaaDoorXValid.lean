/- Chapter 32: capital.Valid. -/
import Derived.Test.YtdhnojfpgpjabaaDoorPx0
import Derived.Test.YtdhnojfpgpjabaaDoorXtake
import Derived.LoopN
set_option linter.unusedSimpArgs false
set_option linter.unusedVariables false
namespace Go.Proofs.YtdhnojfpgpjabaaDoor.P
open Go Go.RowKit Go.Proofs.YtdhnojfpgpjabaaDoorW.PrintWords Go.Proofs.YtdhnojfpgpjabaaDoorW.PrintLast Go.Proofs.YtdhnojfpgpjabaaDoorW.PrintMore Go.Proofs.YtdhnojfpgpjabaaDoor.Ord

/-- The bounds of a step's number, by its kind. -/
def loV (k : Int) : Int := rangesTab.getD (k.toNat * 2) 0
def hiV (k : Int) : Int := rangesTab.getD (k.toNat * 2 + 1) 0
/-- A step of no kind, or of a wrong day. -/
def oddB (last : Int) (s : S36) : Bool := decide (s.f0 < 1) || decide (6 < s.f0) || decide (s.f1 < last) || decide (36524 < s.f1)
def validL : Bk → Int → List S36 → Bool
  | _, _, [] => true
  | b, last, s :: r => if oddB last s = true then false else if (decide (s.f2 < loV s.f0) || decide (hiV s.f0 < s.f2)) = true then false else if (takeV b s.f0 s.f2).2 = false then false else validL (takeV b s.f0 s.f2).1 s.f1 r
def bk0 : Bk := ⟨0, 0, 0, 0, false⟩
def validV (l : List S36) : Bool := validL bk0 0 l && decide (l.length ≤ 1000)
def capital_Valid.f (l0 : List (S36)) : Option (Bool) := some (validV l0)

/-- A step of a list, read. -/
theorem steps_three {w : World} {A : Option Addr} {l : List S36} (h : Kd.C k36 w A l.length l) {k : Nat} {x : S36} (hk : l[k]? = some x) : ∃ ad, A = some ad ∧ ∀ W, Below w.heap.size w W →
    W.cell? (ad.add (k * 3)) = some (.int .i64 x.f0) ∧ W.cell? ⟨(ad.add (k * 3)).block, (ad.add (k * 3)).off + 1, none⟩ = some (.int .i64 x.f1) ∧ W.cell? ⟨(ad.add (k * 3)).block, (ad.add (k * 3)).off + 2, none⟩ = some (.int .i64 x.f2) := by
  obtain ⟨hlt, hx⟩ := List.getElem?_eq_some_iff.1 hk
  have hrd : rd_T36 l (k : Int) = x := by
    unfold rd_T36
    simp [List.getD, hk]
  obtain ⟨ad, rfl, _⟩ := at_T36 h (k : Int) (by omega) (by omega)
  refine ⟨ad, rfl, fun W hW => ?_⟩
  obtain ⟨ad', e, h0, h1, h2⟩ := at_T36 (Kd.C_below h hW) (k : Int) (by omega) (by omega)
  cases e
  rw [hrd, Int.toNat_natCast] at h0 h1 h2
  exact ⟨h0, h1, h2⟩
theorem ranges_cell {w : World} (h : TabOk w) (k : Int) (h1 : 1 ≤ k) (h6 : k ≤ 6) : w.cell? ⟨0, k.toNat * 2, none⟩ = some (.int .i64 (loV k)) ∧ w.cell? ⟨0, k.toNat * 2 + 1, none⟩ = some (.int .i64 (hiV k)) := by
  have hk : k.toNat * 2 + 1 < rangesTab.length := by simp [rangesTab]; omega
  exact ⟨h.2.cell (g := 0) (by rfl) _ (by omega), h.2.cell (g := 0) (by rfl) _ hk⟩
set_option maxRecDepth 100000 in
set_option maxHeartbeats 2000000 in
theorem capital_Valid.go (A0 : Option Addr) (c0 : Nat) (l : List (S36)) (w : World) (hr0 : Kd.C k36 w A0 l.length l) (hT : TabOk w) :
    Calls Tryd.prog 14 #[.slice A0 l.length c0] w fun e w' => e = .returned (.bool (validV l)) ∧ Below w.heap.size w w' := by
  have hle := hr0.2.1
  have HT := Lib.hid hT
  have hgo := fun W (h : Below w.heap.size w W) => TabOk.below HT.out h
  clear hT
  go_enter Tryd.func14, Tryd.ntmps14
  go_wp2_with fail
  go_loopw [4, 10] (fun v4 v10 wr => ∃ (k : Nat) (b : Bk) (last : Int), k ≤ l.length ∧ v10 = .int .i64 k ∧ v4 = .int .i64 last ∧ BookAt wr w.heap.size b ∧ Below w.heap.size w wr ∧ Hid (validV l = (validL b last (l.drop k) && decide (l.length ≤ 1000)))) (fun _ i _ => l.length - (intOf i).toNat)
  case atStart => exact ⟨0, bk0, 0, Nat.zero_le _, rfl, rfl, Blk.new w _ bk0.cells, (Below.refl _ _).alloc (Nat.le_refl _) _, rfl⟩
  case round =>
    obtain ⟨k, b, last, hk, rfl, rfl, hbk, hB, hst⟩ := hrel
    by_cases hlt : k < l.length
    · have hxk : l[k]? = some l[k] := List.getElem?_eq_getElem hlt
      have hst' : Hid (validV l = (validL b last (l[k] :: l.drop (k + 1)) && decide (l.length ≤ 1000))) := by
        unfold Hid
        rw [hst.out, List.drop_eq_getElem_cons hlt]
      generalize l[k] = x at *
      obtain ⟨ad, rfl, hld⟩ := steps_three hr0 hxk
      have hsz := hB.size
      have HB := Lib.hid hB
      have HBK := Lib.hid hbk
      have HX := Lib.hid hst'
      obtain ⟨l0, l1, l2⟩ := hld wr hB
      clear hld hxk hst hst' hbk hB
      by_cases ho : oddB last x = true
      · have hno : Hid (validV l = false) := by unfold Hid; rw [HX.out]; simp [validL, ho]
        have hfin : ∀ o, Below w.heap.size w (wr.alloc o) := fun o => HB.out.alloc hsz o
        clear HX
        by_cases q1 : x.f0 < 1
        · have d1 := decide_eq_true q1
          clear ho q1
          go_wp2_with fail
          go_ret
          exact ⟨by rw [hno.out]; rfl, hfin _⟩
        have d1 := decide_eq_false q1
        by_cases q2 : 6 < x.f0
        · have d2 := decide_eq_true q2
          clear ho q1 q2
          go_wp2_with fail
          go_ret
          exact ⟨by rw [hno.out]; rfl, hfin _⟩
        have d2 := decide_eq_false q2
        by_cases q3 : x.f1 < last
        · have d3 := decide_eq_true q3
          clear ho q1 q2 q3
          go_wp2_with fail
          go_ret
          exact ⟨by rw [hno.out]; rfl, hfin _⟩
        have d3 := decide_eq_false q3
        by_cases q4 : 36524 < x.f1
        · have d4 := decide_eq_true q4
          clear ho q1 q2 q3 q4
          go_wp2_with fail
          go_ret
          exact ⟨by rw [hno.out]; rfl, hfin _⟩
        · exact absurd ho (by unfold oddB; simp [q1, q2, q3, q4])
      · have hod : oddB last x = false := by simpa using ho
        have hoo := hod
        unfold oddB at hoo
        simp only [Bool.or_eq_false_iff] at hoo
        obtain ⟨⟨⟨d1, d2⟩, d3⟩, d4⟩ := hoo
        have hr := fun o => ranges_cell (hgo (wr.alloc o) (HB.out.alloc hsz o)) x.f0 (by have := of_decide_eq_false d1; omega) (by have := of_decide_eq_false d2; omega)
        have r0 := fun o => (hr o).1
        have r1 := fun o => (hr o).2
        have hf0 : 0 ≤ x.f0 := by have := of_decide_eq_false d1; omega
        have hf7 : x.f0 < 7 := by have := of_decide_eq_false d2; omega
        have HO := Lib.hid hod
        clear ho hod hr
        by_cases q1 : x.f2 < loV x.f0
        · have e1 := decide_eq_true q1
          have hno : Hid (validV l = false) := by unfold Hid; rw [HX.out]; simp [validL, HO.out, q1]
          clear q1 HX
          go_wp2_with fail
          go_ret
          exact ⟨by rw [hno.out]; rfl, (HB.out.alloc hsz _).alloc (by simp; omega) _⟩
        have e1 := decide_eq_false q1
        by_cases q2 : hiV x.f0 < x.f2
        · have e2 := decide_eq_true q2
          have hno : Hid (validV l = false) := by unfold Hid; rw [HX.out]; simp [validL, HO.out, q1, q2]
          clear q1 q2 HX
          go_wp2_with fail
          go_ret
          exact ⟨by rw [hno.out]; rfl, (HB.out.alloc hsz _).alloc (by simp; omega) _⟩
        have e2 := decide_eq_false q2
        have HX' : Hid (validV l = ((if (takeV b x.f0 x.f2).2 = false then false else validL (takeV b x.f0 x.f2).1 x.f1 (l.drop (k + 1))) && decide (l.length ≤ 1000))) := by unfold Hid; rw [HX.out]; simp [validL, HO.out, q1, q2]
        clear q1 q2 HX
        have hB2 := fun o o' => (HB.out.alloc hsz o).alloc (show w.heap.size ≤ (wr.alloc o).heap.size by simp; omega) o'
        have hbl := HBK.out.lt
        have hT2 := fun o o' W (h : KeepsBut (fun k => k = w.heap.size) ((wr.alloc o).alloc o') W) => hgo W ((hB2 o o').trans (h.below (show w.heap.size ≤ ((wr.alloc o).alloc o').heap.size by simp; omega) (fun k hk => by omega)))
        have hsx := fun o' => (Blk.new wr 36 [.int .i64 x.f0, .int .i64 x.f1, .int .i64 x.f2]).alloc o'
        go_wp2_with fail
        refine (take_calls b x.f0 x.f1 x.f2 w.heap.size _ ((HBK.out.alloc _).alloc _) (hT2 _ _)).mono ?_
        rintro e W3 ⟨rfl, hbk3, hk3⟩
        have hs3 := ((hsx _).but hk3 (by omega)).cell 1 _ rfl
        have hB3 := (hB2 _ _).trans (hk3.below (by simp; omega) (fun k hk => by omega))
        have HBK3 := Lib.hid hbk3
        clear hbk3 hk3 hsx hT2 hB2 r0 r1
        cases ht : (takeV b x.f0 x.f2).2 with
        | false =>
          rw [ht] at HX'
          go_wp2_with fail
          go_ret
          exact ⟨by rw [HX'.out]; rfl, hB3⟩
        | true =>
          rw [ht] at HX'
          go_wp2_with fail
          go_roundw
          case rel => exact ⟨k + 1, _, x.f1, by omega, by simp, rfl, HBK3.out, hB3, by unfold Hid; rw [HX'.out]; rfl⟩
          case measure => simp [intOf]; omega
    · obtain rfl : k = l.length := by omega
      rw [List.drop_length] at hst
      by_cases hn : l.length ≤ 1000
      · go_wp2_with fail
        go_ret
        exact ⟨by rw [hst.out]; simp [validL]; omega, hB⟩
      · go_wp2_with fail
        go_ret
        exact ⟨by rw [hst.out]; simp [validL]; omega, hB⟩
theorem capital_Valid.calls (A0 : Option Addr) (c0 : Nat) (l0 : List (S36)) (r : Bool) (w : World) (hr0 : Kd.C k36 w A0 l0.length l0) (hc0 : l0.length ≤ c0) (hT : TabOk w) (h : capital_Valid.f l0 = some r) :
    Calls Tryd.prog 14 #[.slice A0 l0.length c0] w fun e w' => e = .returned (.bool r) ∧ Below w.heap.size w w' := by
  obtain rfl := Option.some.inj h
  exact capital_Valid.go A0 c0 l0 w hr0 hT
end Go.Proofs.YtdhnojfpgpjabaaDoor.P
