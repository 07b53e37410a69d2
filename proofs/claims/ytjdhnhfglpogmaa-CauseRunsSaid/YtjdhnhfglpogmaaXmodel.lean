/- The causal model in memory: newModel, bit, values, mask. -/
import Derived.Test.YtjdhnhfglpogmaaPx4
import Derived.Lib.Hide
import Derived.Outline
set_option linter.unusedSimpArgs false
set_option linter.unusedVariables false
namespace Go.Proofs.Ytjdhnhfglpogmaa.P
open Go.RowKit Go.Proofs.YtjdhnhfglpogmaaW.PrintWords Go.Proofs.YtjdhnhfglpogmaaW.PrintLast Go.Proofs.YtjdhnhfglpogmaaW.PrintMore

/-- A model in block g: its variables, the indexes of the free ones. -/
def IsM (W : World) (g : Nat) (l : List S44) (fr : List Int) : Prop :=
  ∃ A c F d, W.heap[g]? = some (.cells #[.slice A l.length c, .slice F fr.length d] 60 (0, 0)) ∧ l.length ≤ c ∧ Kd.C k44 W A l.length l ∧ fr.length ≤ d ∧ Kd.C (Kd.int .i64) W F fr.length fr
theorem IsM.below {W W1 : World} {g : Nat} {l : List S44} {fr : List Int} (h : IsM W g l fr) (hb : Below W.heap.size W W1) : IsM W1 g l fr := by
  obtain ⟨A, c, F, d, h1, h2, h3, h4, h5⟩ := h
  exact ⟨A, c, F, d, blk_below h1 hb, h2, Kd.C_below h3 hb, h4, Kd.C_below h5 hb⟩

/-- The indexes of the free variables of a list that begins at i. -/
def freeAt : List S44 → Nat → List Int
  | [], _ => []
  | v :: l, i => if v.f1.length = 0 then (i : Int) :: freeAt l (i + 1) else freeAt l (i + 1)
theorem freeAt_append : ∀ (a b : List S44) (i : Nat), freeAt (a ++ b) i = freeAt a i ++ freeAt b (i + a.length)
  | [], b, i => by simp [freeAt]
  | v :: a, b, i => by
    have ih := freeAt_append a b (i + 1)
    simp only [List.cons_append, freeAt, ih, List.length_cons]
    rw [show i + 1 + a.length = i + (a.length + 1) from by omega]
    split <;> simp
def freeOf (l : List S44) : List Int := freeAt l 0
theorem freeAt_length : ∀ (l : List S44) (i : Nat), (freeAt l i).length ≤ l.length
  | [], _ => by simp [freeAt]
  | v :: l, i => by
    have := freeAt_length l (i + 1)
    simp only [freeAt]
    split <;> simp <;> omega
theorem freeOf_take (l : List S44) (k : Nat) (hk : k < l.length) : freeOf (l.take (k + 1)) = freeOf (l.take k) ++ (if (rd_T44 l (k : Int)).f1.length = 0 then [(k : Int)] else []) := by
  unfold freeOf
  have h1 : l.take (k + 1) = l.take k ++ [rd_T44 l (k : Int)] := by
    rw [List.take_succ_eq_append_getElem hk]
    simp [rd_T44, List.getD_eq_getElem?_getD, List.getElem?_eq_getElem hk]
  rw [h1, freeAt_append]
  simp only [freeAt, List.length_take, Nat.min_eq_left (Nat.le_of_lt hk), Nat.zero_add]


theorem newModel_no (k : Nat) (A0 : Option Addr) (c0 : Nat) (l0 : List S44) (w : World) (hr0 : Kd.C k44 w A0 l0.length l0) (hc0 : l0.length ≤ c0) (h : cause_Valid.f k l0 = some false) :
    Calls Try.prog 31 #[.slice A0 l0.length c0] w fun e w' => e = .returned (.tuple #[.pointer none, .bool false]) ∧ Below w.heap.size w w' := by
  have hv := Lib.hid (fun W => cause_Valid.calls k A0 c0 l0 false W)
  have HR := Lib.hid hr0
  have HH := Lib.hid h
  clear hr0 h
  go_enter Try.func31, Try.ntmps31
  go_wp2_with fail
  refine (hv.out w HR.out hc0 HH.out).mono ?_
  rintro e w1 ⟨rfl, hb⟩
  go_wp2_with fail
  go_ret2
  exact ⟨rfl, hb⟩

set_option maxRecDepth 100000 in
set_option maxHeartbeats 1000000 in
theorem newModel_yes (k : Nat) (A0 : Option Addr) (c0 : Nat) (l0 : List S44) (w : World) (hr0 : Kd.C k44 w A0 l0.length l0) (hc0 : l0.length ≤ c0) (h : cause_Valid.f k l0 = some true) (hlen : l0.length ≤ 1000) :
    Calls Try.prog 31 #[.slice A0 l0.length c0] w fun e w' => ∃ g, e = .returned (.tuple #[.pointer (some ⟨g, 0, none⟩), .bool true]) ∧ IsM w' g l0 (freeOf l0) ∧ w.heap.size ≤ g ∧ Below w.heap.size w w' := by
  have hv := Lib.hid (fun W => cause_Valid.calls k A0 c0 l0 true W)
  have HR := Lib.hid hr0
  have HH := Lib.hid h
  have hu44 := Try.underlying44
  have hu60 := Try.underlying60
  clear hr0 h
  go_enter Try.func31, Try.ntmps31
  go_wp2_with fail
  refine (hv.out w HR.out hc0 HH.out).mono ?_
  rintro e w1 ⟨rfl, hb⟩
  have hC := Lib.hid (Kd.C_below HR.out hb)
  have hs1 := hb.size
  go_wp2_with fail
  go_loopw [15] (fun i wr => ∃ (k : Nat) (v : Value), k ≤ l0.length ∧ i = .int .i64 k ∧ wr.heap[w1.heap.size]? = some (.cells #[.slice A0 l0.length c0, v] 60 (0, 0)) ∧ Kd.R (Kd.int .i64) 3 wr w.heap.size (fun _ => True) v (freeOf (l0.take k)) ∧ Below w.heap.size w wr) (fun i _ => l0.length - (intOf i).toNat)
  case atStart => exact ⟨0, _, Nat.zero_le _, rfl, heap_alloc_new _ _, Kd.R_nil _ _ _ _ _, hb.alloc hs1 _⟩
  case round =>
    obtain ⟨k, v, hk, rfl, hblk, hR, hB⟩ := hrel
    by_cases hlt : k < l0.length
    · obtain ⟨ad, A1, c1, A2, c2, e, hx0, hx1, hx2, hl1, hi1, hl2, hi2⟩ := at_T44 HR.out (k : Int) (by omega) (by omega)
      cases e
      simp only [Int.toNat_natCast] at hx0 hx1 hx2
      replace hx0 := (hB.cell (World.block_lt_of_cell? w _ hx0)).trans hx0
      replace hx1 := (hB.cell (World.block_lt_of_cell? w _ hx1)).trans hx1
      replace hx2 := (hB.cell (World.block_lt_of_cell? w _ hx2)).trans hx2
      have hfk := Lib.hid (freeOf_take l0 k hlt)
      obtain ⟨B, cB, rfl⟩ := Kd.R_slice hR
      have hg1 : ∀ o, (wr.alloc o).cell? ⟨w1.heap.size, 1, none⟩ = some (.slice B (freeOf (l0.take k)).length cB) := fun o => blk_cell (blk_alloc hblk o) 1
      have hlen0 : (freeOf (l0.take k)).length ≤ 1000 := by
        have h1 := freeAt_length (l0.take k) 0
        have h2 := List.length_take_le k l0
        unfold freeOf
        omega
      generalize hxv : rd_T44 l0 (k : Int) = xv at *
      clear hxv hi1 hi2
      by_cases h0 : xv.f1.length = 0
      · have hb0 : ((xv.f1.length : Int) == 0) = true := by simp [h0]
        have hfk' : Hid (freeOf (l0.take (k + 1)) = freeOf (l0.take k) ++ [(k : Int)]) := by unfold Hid; rw [hfk.out, if_pos h0]
        clear h0 hfk
        go_wp2_with (at_builtin; refine Kd.R_append (Kd.int .i64) (w0 := w) w.heap.size rfl (.tmp 28) (.tmp 30) 36 3 (.int .i64 0) 8 rfl Try.underlying36 info3 rfl (by decide) (by omega) _ (freeOf (l0.take k)) (k : Int) [.int .i64 (k : Int)] (fun _ => True) (fun _ => False) rfl (by first | rfl | go_simp) ?aP (fun _ hk => hk.elim) ?aF ?aO ?aB ?aS ?aL ?_; (case aP => exact rfl); (case aF => exact fun _ _ => trivial); (case aO => exact Kd.R_alloc hR _); (case aB => exact below_alloc hB _); (case aS => exact below_size (below_alloc hB _)); (case aL => omega); intro v2 w2 ho hb2 hg hat; obtain ⟨B2, cB2, rfl⟩ := Kd.R_slice ho; simp only [List.length_append, List.length_cons, List.length_nil, Nat.zero_add] at ho; have hblk2 := blk_grown (blk_alloc hblk _) hg (Kd.R_ne hR hblk (by decide)); have hf2 := blk_frozen hblk2 1; have hc2 : w2.cell? ⟨w1.heap.size, 1, none⟩ = some _ := blk_cell hblk2 1; have HK := Lib.hid (And.intro hb2 (And.intro ho hblk2)); clear hb2 ho hg hat hblk2)
        go_roundw
        case rel =>
          obtain ⟨hb2, ho, hblk2⟩ := HK.out
          exact ⟨k + 1, _, by omega, by go_num, blk_set hblk2 1 _, by rw [hfk'.out]; exact Kd.R_set ho hblk2 (by simp [Kd.int, Kd.scalar]) 1 _, below_set hb2 hs1⟩
        case measure => simp [intOf]; omega
      · have hb0 : ((xv.f1.length : Int) == 0) = false := by simpa using h0
        have hfk' : Hid (freeOf (l0.take (k + 1)) = freeOf (l0.take k)) := by unfold Hid; rw [hfk.out, if_neg h0, List.append_nil]
        clear h0 hfk
        go_wp2
        go_roundw
        case rel => exact ⟨k + 1, _, by omega, by go_num, blk_alloc hblk _, by rw [hfk'.out]; exact Kd.R_alloc hR _, below_alloc hB _⟩
        case measure => simp [intOf]; omega
    · have hkl : Hid (l0.take k = l0) := List.take_of_length_le (by omega)
      rw [hkl.out] at hR
      go_wp2_with fail
      go_ret2
      obtain ⟨B, cB, rfl, hle, hC⟩ := Kd.R_reads hR
      exact ⟨_, rfl, ⟨A0, c0, B, cB, hblk, hc0, Kd.C_below HR.out hB, hle, hC⟩, hs1, hB⟩
end Go.Proofs.Ytjdhnhfglpogmaa.P
