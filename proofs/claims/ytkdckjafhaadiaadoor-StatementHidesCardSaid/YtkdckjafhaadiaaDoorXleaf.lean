/- digest.octets, leaf, join: the bytes of numbers, in arrays. -/
import Derived.Test.YtkdckjafhaadiaaDoorGen
import Derived.Test.YtkdckjafhaadiaaDoorXints
import Derived.Test.YtkdckjafhaadiaaDoorOrd
import Derived.Laws.Rows
set_option linter.unusedSimpArgs false
set_option linter.unusedVariables false
namespace Go.Proofs.YtkdckjafhaadiaaDoor.P
open Go Go.RowKit Go.Proofs.YtkdckjafhaadiaaDoor.Ord Go.Proofs.YtkdckjafhaadiaaDoorW.PrintWords Go.Proofs.YtkdckjafhaadiaaDoorW.PrintLast Go.Proofs.YtkdckjafhaadiaaDoorW.PrintMore

/-- Byte k of a number, the most significant one first. -/
def oct (n : Int) (k : Nat) : Int := n / 2 ^ (56 - 8 * k) % 256
/-- The cells behind k rounds. -/
def octC (n : Int) (k : Nat) : Array Value := ((List.range 8).map fun j => Value.int .u8 (if j < k then oct n j else 0)).toArray

set_option maxRecDepth 100000 in
set_option maxHeartbeats 1000000 in
theorem octets_calls (n : Int) (w : World) (h0 : 0 ≤ n) (h1 : n < 18446744073709551616) :
    Calls Tryd.prog 67 #[.int .u64 n] w fun e w' => e = .returned (.agg (octC n 8)) ∧ Below w.heap.size w w' := by
  go_enter Tryd.func67, Tryd.ntmps67
  go_wp2_with fail
  go_loopw [4] (fun v wr => ∃ (k : Nat), k ≤ 8 ∧ v = .int .i64 k ∧ wr = w.alloc (.cells (octC n k) 104)) (fun v _ => 8 - (intOf v).toNat)
  case atStart => exact ⟨0, by omega, rfl, rfl⟩
  case round =>
    obtain ⟨k, hk, rfl, rfl⟩ := hrel
    have e0 : n / 72057594037927936 % 256 = n / 72057594037927936 := by omega
    have hc : k = 0 ∨ k = 1 ∨ k = 2 ∨ k = 3 ∨ k = 4 ∨ k = 5 ∨ k = 6 ∨ k = 7 ∨ k = 8 := by omega
    rcases hc with rfl | rfl | rfl | rfl | rfl | rfl | rfl | rfl | rfl
    case inr.inr.inr.inr.inr.inr.inr.inr =>
      simp only [octC, List.range, List.range.loop, List.map_cons, List.map_nil, Nat.not_lt_zero, if_false]
      go_wp2_with fail
      (try simp only [Exit.inBlock, Exit.then])
      refine bodyPost_ret (results_cell_row rfl _ _ w.heap.size 104 _ (0, 0) _ rfl (heap_alloc_new w _) Tryd.underlying104 rfl (by kernel_rfl)) rfl ?_
      exact ⟨rfl, below_alloc (Below.refl _ _) _⟩
    all_goals
      simp only [octC, List.range, List.range.loop, List.map_cons, List.map_nil, Nat.not_lt_zero, if_false]
      go_wp2_with fail
      first | (refine ⟨⟨1, by decide, rfl, ?_⟩, by simp [intOf]⟩) | (refine ⟨⟨2, by decide, rfl, ?_⟩, by simp [intOf]⟩) | (refine ⟨⟨3, by decide, rfl, ?_⟩, by simp [intOf]⟩) | (refine ⟨⟨4, by decide, rfl, ?_⟩, by simp [intOf]⟩) | (refine ⟨⟨5, by decide, rfl, ?_⟩, by simp [intOf]⟩) | (refine ⟨⟨6, by decide, rfl, ?_⟩, by simp [intOf]⟩) | (refine ⟨⟨7, by decide, rfl, ?_⟩, by simp [intOf]⟩) | (refine ⟨⟨8, by decide, rfl, ?_⟩, by simp [intOf]⟩)
      simp [oct, e0]

/-- The bytes of a number. -/
def octs (n : Int) : List Int := (List.range 8).map (oct n)
theorem octC_all (n : Int) : octC n 8 = #[.int .u8 (oct n 0), .int .u8 (oct n 1), .int .u8 (oct n 2), .int .u8 (oct n 3), .int .u8 (oct n 4), .int .u8 (oct n 5), .int .u8 (oct n 6), .int .u8 (oct n 7)] := rfl
theorem src_of {W : World} {g : Nat} {cs : List Value} {t : TypeId} {fr : Nat × Nat} (hg : W.heap[g]? = some (.cells cs.toArray t fr)) : ∀ j v, cs[j]? = some v → W.cell? ⟨g, j, none⟩ = some v := fun j v hv => by
  rw [cell_of_row _ _ j _ t fr hg]
  simpa using hv
/-- 'copy' of bytes into a block: what the block then holds, and that nothing else has turned. -/
theorem copy_into (W : World) (g o dLen dCap a sLen sCap : Nat) (cur : List Value) (t : TypeId) (cs : List Value) (hg : W.heap[g]? = some (.cells cur.toArray t (0, 0))) (hn : cs.length = Nat.min sLen dLen)
    (hsrc : ∀ j v, cs[j]? = some v → W.cell? ⟨a, j, none⟩ = some v) (hfit : o + cs.length ≤ cur.length) (h1 : ∀ v ∈ cs, v.oneCell' = true) :
    ∃ W', (Builtin.copy_ #[100, 100] 3 #[.slice (some ⟨g, o, none⟩) dLen dCap, .slice (some ⟨a, 0, none⟩) sLen sCap]).run Tryd.prog W = .ok (goInt cs.length) W' ∧ W'.heap[g]? = some (.cells (cur.take o ++ cs ++ cur.drop (o + cs.length)).toArray t (0, 0)) ∧ (∀ B, B ≤ g → B ≤ W.heap.size → Below B W W') ∧ ∀ j, j ≠ g → W'.heap[j]? = W.heap[j]? := by
  have h := run_copy_row (P := Tryd.prog) W 100 100 3 5 g o dLen dCap ⟨a, 0, none⟩ sLen sCap cur.toArray t cs Tryd.underlying100 (by kernel_rfl) hg hn (fun j v hv => by
    have := hsrc j v hv
    have hadd : (⟨a, 0, none⟩ : Addr).add j = ⟨a, j, none⟩ := by unfold Addr.add; split <;> simp_all
    rw [hadd]; exact this) (by simpa using hfit) h1
  refine ⟨_, h, ?_, ?_, ?_⟩
  · simp only [World.setRow, Array.getElem?_modify, if_true, hg]
    simp
  · intro B hB hs
    refine ⟨rfl, rfl, rfl, by simp [World.setRow], fun j hj => ?_⟩
    have hne : g ≠ j := by omega
    simp only [World.setRow, Array.getElem?_modify, if_neg hne]
  · intro j hj
    have hne : g ≠ j := fun e => hj e.symm
    simp only [World.setRow, Array.getElem?_modify, if_neg hne]
theorem flat_one : ∀ l : List Int, (l.map fun x => [Value.int .u8 x]).flatten = l.map (Value.int .u8)
  | [] => rfl
  | x :: l => by simp only [List.map_cons, List.flatten_cons, flat_one l]; rfl
/-- The digest of a block's bytes. -/
theorem digest_sumC {W : World} {g k n : Nat} {l : List Int} {t : TypeId} {fr : Nat × Nat} {cs : List Value} {r : Int} (hg : W.heap[g]? = some (.cells cs.toArray t fr)) (hcs : cs = l.map (Value.int .u8)) (hl : l.length ≤ 1000000) (hn : n = l.length) (h : Y.digest_Sum.f k l = some r) :
    Calls Tryd.prog 66 #[.slice (some ⟨g, 0, none⟩) n n] W fun e w' => e = .returned (.int .u64 r) ∧ Drawn0 W w' := by
  subst hn
  refine Y.digest_Sum.calls k (some ⟨g, 0, none⟩) l.length l r W (C_blk (d := Kd.int .u8) l (l.map fun x => [Value.int .u8 x]) (t := t) (fr := fr) ?_ (by omega) ?_) (Nat.le_refl _) h
  · rw [hg, hcs, flat_one]
  · clear h hg hcs hl
    induction l with
    | nil => trivial
    | cons x l ih => exact ⟨rfl, ih⟩
theorem below_alloc' {w W : World} {o : Obj} (h : Below (w.alloc o).heap.size (w.alloc o) W) : Below w.heap.size w W :=
  below_step (below_alloc (Below.refl _ _) o) h
set_option maxRecDepth 100000 in
set_option maxHeartbeats 1000000 in
theorem leaf_calls (n : Int) (w : World) (h0 : 0 ≤ n) (h1 : n < 18446744073709551616) (k : Nat) (r : Int) (hs : Y.digest_Sum.f k (0 :: octs n) = some r) :
    Calls Tryd.prog 59 #[.int .u64 n] w fun e w' => e = .returned (.int .u64 r) ∧ Below w.heap.size w w' := by
  have HO := Lib.hid (fun W => octets_calls n W h0 h1)
  go_enter Tryd.func59, Tryd.ntmps59
  go_wp2_with fail
  refine (HO.out _).mono ?_
  rintro e w1 ⟨rfl, hb⟩
  rw [octC_all]
  go_wp2_with fail
  refine wp_region_auto (fun _ => True) ((0, none, none) :: (0, none, none) :: (0, none, some false) :: []) (by kernel_rfl) (by kernel_rfl) (fun _ _ d _ _ h => by cases d <;> exact h) trivial ?_
  repeat' (first
    | (with_reducible apply rel_pass
       focus (intro W hW; first | (go_simp; exact rfl) | go_simp)
       simp only [Act.put, List.setIfInBounds_toArray, List.set_cons_zero, List.set_cons_succ])
    | (with_reducible apply rel_yes
       focus (exact rfl))
    | (with_reducible apply rel_no
       focus (exact rfl)
       simp only [Act.put, List.setIfInBounds_toArray, List.set_cons_zero, List.set_cons_succ])
    | (with_reducible apply rel_askF
       focus (exact rfl)
       all_goals (intro hb; simp only [hb, Act.put, List.setIfInBounds_toArray, List.set_cons_zero, List.set_cons_succ]))
    | (with_reducible apply rel_askT
       focus (exact rfl)
       all_goals (intro hb; simp only [hb, Act.put, List.setIfInBounds_toArray, List.set_cons_zero, List.set_cons_succ]))
    | (with_reducible apply rel_front1)
    | (with_reducible apply rel_front2)
    | (with_reducible apply rel_front3)
    | (with_reducible apply rel_front4)
    | (with_reducible apply rel_front5)
    | (with_reducible apply rel_front6))
  with_reducible apply rel_act
  intro K hK
  go_simp
  obtain ⟨W', hrun, hblk, hbel, hoth⟩ := copy_into ((w1.alloc (.cells #[.int .u8 (oct n 0), .int .u8 (oct n 1), .int .u8 (oct n 2), .int .u8 (oct n 3), .int .u8 (oct n 4), .int .u8 (oct n 5), .int .u8 (oct n 6), .int .u8 (oct n 7)] 104)).drew) w.heap.size 1 8 8 w1.heap.size 8 8 [.int .u8 0, .int .u8 0, .int .u8 0, .int .u8 0, .int .u8 0, .int .u8 0, .int .u8 0, .int .u8 0, .int .u8 0] 103
    [.int .u8 (oct n 0), .int .u8 (oct n 1), .int .u8 (oct n 2), .int .u8 (oct n 3), .int .u8 (oct n 4), .int .u8 (oct n 5), .int .u8 (oct n 6), .int .u8 (oct n 7)]
    (blk_drew (blk_alloc ((hb.block w.heap.size (by simp)).trans (heap_alloc_new w _)) _)) rfl (src_of (blk_drew (heap_alloc_new w1 _))) (by simp) (by simp [Value.oneCell'])
  rw [show goInt _ = _ from rfl] at hrun
  rw [hrun]
  have hsz := hb.size
  have HB := Lib.hid (Below.trans (below_drew1 (below_alloc (below_alloc' hb) _)) (hbel w.heap.size (Nat.le_refl _) (by simp; simp at hsz; omega)))
  have HS := Lib.hid (digest_sumC (n := 9) hblk (l := 0 :: octs n) rfl (by simp [octs]) rfl hs)
  clear hblk hbel hoth hrun
  go_simp
  refine hK _ _ ⟨fun _ => trivial, ?_⟩
  clear hK K
  try simp only [Act.put, List.setIfInBounds_toArray, List.set_cons_zero, List.set_cons_succ]
  apply rel_nil
  simp only [Exit.then, Exit.inBlock]
  go_wp2_with fail
  refine HS.out.mono ?_
  rintro e w2 ⟨rfl, hd⟩
  go_wp2_with fail
  go_ret
  exact ⟨rfl, below_step HB.out hd.below⟩

set_option maxRecDepth 100000 in
set_option maxHeartbeats 1000000 in
theorem join_calls (n m : Int) (w : World) (h0 : 0 ≤ n) (h1 : n < 18446744073709551616) (h2 : 0 ≤ m) (h3 : m < 18446744073709551616) (k : Nat) (r : Int) (hs : Y.digest_Sum.f k (1 :: (octs n ++ octs m)) = some r) :
    Calls Tryd.prog 60 #[.int .u64 n, .int .u64 m] w fun e w' => e = .returned (.int .u64 r) ∧ Below w.heap.size w w' := by
  have HO := Lib.hid (fun W => octets_calls n W h0 h1)
  have HM := Lib.hid (fun W => octets_calls m W h2 h3)
  go_enter Tryd.func60, Tryd.ntmps60
  go_wp2_with fail
  refine (HO.out _).mono ?_
  rintro e w1 ⟨rfl, hb⟩
  rw [octC_all]
  go_wp2_with fail
  refine (HM.out _).mono ?_
  rintro e w2 ⟨rfl, hb2⟩
  rw [octC_all]
  have hblk0 := (hb2.block w.heap.size (by have := hb.size; simp at this; omega)).trans ((hb.block w.heap.size (by simp)).trans (heap_alloc_new w _))
  have hs2 : w.heap.size + 1 ≤ w2.heap.size := by have h4 := hb.size; have h5 := hb2.size; simp at h4; omega
  have HB := Lib.hid (below_step (below_alloc' hb) hb2)
  clear hb hb2
  go_wp2_with fail
  refine wp_region_auto (fun _ => True) ((0, none, none) :: (0, none, none) :: (0, none, some false) :: []) (by kernel_rfl) (by kernel_rfl) (fun _ _ d _ _ h => by cases d <;> exact h) trivial ?_
  repeat' (first
    | (with_reducible apply rel_pass
       focus (intro W hW; first | (go_simp; exact rfl) | go_simp)
       simp only [Act.put, List.setIfInBounds_toArray, List.set_cons_zero, List.set_cons_succ])
    | (with_reducible apply rel_yes
       focus (exact rfl))
    | (with_reducible apply rel_no
       focus (exact rfl)
       simp only [Act.put, List.setIfInBounds_toArray, List.set_cons_zero, List.set_cons_succ])
    | (with_reducible apply rel_askF
       focus (exact rfl)
       all_goals (intro hb; simp only [hb, Act.put, List.setIfInBounds_toArray, List.set_cons_zero, List.set_cons_succ]))
    | (with_reducible apply rel_askT
       focus (exact rfl)
       all_goals (intro hb; simp only [hb, Act.put, List.setIfInBounds_toArray, List.set_cons_zero, List.set_cons_succ]))
    | (with_reducible apply rel_front1)
    | (with_reducible apply rel_front2)
    | (with_reducible apply rel_front3)
    | (with_reducible apply rel_front4)
    | (with_reducible apply rel_front5)
    | (with_reducible apply rel_front6))
  with_reducible apply rel_act
  intro K hK
  go_simp
  obtain ⟨W', hrun, hblk, hbel, hoth⟩ := copy_into (((w2.alloc (.cells #[.int .u8 (oct n 0), .int .u8 (oct n 1), .int .u8 (oct n 2), .int .u8 (oct n 3), .int .u8 (oct n 4), .int .u8 (oct n 5), .int .u8 (oct n 6), .int .u8 (oct n 7)] 104)).alloc (.cells #[.int .u8 (oct m 0), .int .u8 (oct m 1), .int .u8 (oct m 2), .int .u8 (oct m 3), .int .u8 (oct m 4), .int .u8 (oct m 5), .int .u8 (oct m 6), .int .u8 (oct m 7)] 104)).drew) w.heap.size 1 16 16 w2.heap.size 8 8 [.int .u8 1, .int .u8 0, .int .u8 0, .int .u8 0, .int .u8 0, .int .u8 0, .int .u8 0, .int .u8 0, .int .u8 0, .int .u8 0, .int .u8 0, .int .u8 0, .int .u8 0, .int .u8 0, .int .u8 0, .int .u8 0, .int .u8 0] 106
    [.int .u8 (oct n 0), .int .u8 (oct n 1), .int .u8 (oct n 2), .int .u8 (oct n 3), .int .u8 (oct n 4), .int .u8 (oct n 5), .int .u8 (oct n 6), .int .u8 (oct n 7)]
    (blk_drew (blk_alloc (blk_alloc hblk0 _) _)) rfl (src_of (blk_drew (blk_alloc (heap_alloc_new w2 _) _))) (by simp) (by simp [Value.oneCell'])
  rw [show goInt _ = _ from rfl] at hrun
  rw [hrun]
  have hy : W'.heap[w2.heap.size + 1]? = some (.cells #[.int .u8 (oct m 0), .int .u8 (oct m 1), .int .u8 (oct m 2), .int .u8 (oct m 3), .int .u8 (oct m 4), .int .u8 (oct m 5), .int .u8 (oct m 6), .int .u8 (oct m 7)] 104 (0, 0)) := (hoth _ (by omega)).trans (blk_drew (heap_alloc2_new w2 _ _))
  replace hblk : W'.heap[w.heap.size]? = some (.cells (List.toArray [.int .u8 1, .int .u8 (oct n 0), .int .u8 (oct n 1), .int .u8 (oct n 2), .int .u8 (oct n 3), .int .u8 (oct n 4), .int .u8 (oct n 5), .int .u8 (oct n 6), .int .u8 (oct n 7), .int .u8 0, .int .u8 0, .int .u8 0, .int .u8 0, .int .u8 0, .int .u8 0, .int .u8 0, .int .u8 0]) 106 (0, 0)) := hblk
  replace HB := Lib.hid (Below.trans (below_drew1 (below_alloc (below_alloc HB.out _) _)) (hbel w.heap.size (Nat.le_refl _) (by simp; omega)))
  clear hbel hoth hrun
  go_simp
  refine hK _ _ ⟨fun _ => trivial, ?_⟩
  clear hK K
  try simp only [Act.put, List.setIfInBounds_toArray, List.set_cons_zero, List.set_cons_succ]
  apply rel_nil
  simp only [Exit.then, Exit.inBlock]
  go_wp2_with fail
  refine wp_region_auto (fun _ => True) ((0, none, none) :: (0, none, none) :: (0, none, some false) :: []) (by kernel_rfl) (by kernel_rfl) (fun _ _ d _ _ h => by cases d <;> exact h) trivial ?_
  repeat' (first
    | (with_reducible apply rel_pass
       focus (intro W hW; first | (go_simp; exact rfl) | go_simp)
       simp only [Act.put, List.setIfInBounds_toArray, List.set_cons_zero, List.set_cons_succ])
    | (with_reducible apply rel_yes
       focus (exact rfl))
    | (with_reducible apply rel_no
       focus (exact rfl)
       simp only [Act.put, List.setIfInBounds_toArray, List.set_cons_zero, List.set_cons_succ])
    | (with_reducible apply rel_askF
       focus (exact rfl)
       all_goals (intro hb; simp only [hb, Act.put, List.setIfInBounds_toArray, List.set_cons_zero, List.set_cons_succ]))
    | (with_reducible apply rel_askT
       focus (exact rfl)
       all_goals (intro hb; simp only [hb, Act.put, List.setIfInBounds_toArray, List.set_cons_zero, List.set_cons_succ]))
    | (with_reducible apply rel_front1)
    | (with_reducible apply rel_front2)
    | (with_reducible apply rel_front3)
    | (with_reducible apply rel_front4)
    | (with_reducible apply rel_front5)
    | (with_reducible apply rel_front6))
  with_reducible apply rel_act
  intro K hK
  go_simp
  obtain ⟨W2, hrun, hblk2, hbel, hoth⟩ := copy_into W'.drew w.heap.size 9 8 8 (w2.heap.size + 1) 8 8 [.int .u8 1, .int .u8 (oct n 0), .int .u8 (oct n 1), .int .u8 (oct n 2), .int .u8 (oct n 3), .int .u8 (oct n 4), .int .u8 (oct n 5), .int .u8 (oct n 6), .int .u8 (oct n 7), .int .u8 0, .int .u8 0, .int .u8 0, .int .u8 0, .int .u8 0, .int .u8 0, .int .u8 0, .int .u8 0] 106
    [.int .u8 (oct m 0), .int .u8 (oct m 1), .int .u8 (oct m 2), .int .u8 (oct m 3), .int .u8 (oct m 4), .int .u8 (oct m 5), .int .u8 (oct m 6), .int .u8 (oct m 7)]
    (blk_drew hblk) rfl (src_of (blk_drew hy)) (by simp) (by simp [Value.oneCell'])
  rw [show goInt _ = _ from rfl] at hrun
  rw [hrun]
  replace HB := Lib.hid (Below.trans (below_drew1 HB.out) (hbel w.heap.size (Nat.le_refl _) (by have := HB.out.size; simp; omega)))
  have HS := Lib.hid (digest_sumC (n := 17) hblk2 (l := 1 :: (octs n ++ octs m)) rfl (by simp [octs]) rfl hs)
  clear hbel hoth hrun hblk hblk2 hy hblk0
  go_simp
  refine hK _ _ ⟨fun _ => trivial, ?_⟩
  clear hK K
  try simp only [Act.put, List.setIfInBounds_toArray, List.set_cons_zero, List.set_cons_succ]
  apply rel_nil
  simp only [Exit.then, Exit.inBlock]
  go_wp2_with fail
  refine HS.out.mono ?_
  rintro e w3 ⟨rfl, hd⟩
  go_wp2_with fail
  go_ret
  exact ⟨rfl, below_step HB.out hd.below⟩

/-- The node of a leaf. -/
def leafV (n : Int) : Int := sumB (0 :: octs n)
/-- The node of two nodes. -/
def joinV (n m : Int) : Int := sumB (1 :: (octs n ++ octs m))
def isU (n : Int) : Bool := decide (0 ≤ n) && decide (n < 18446744073709551616)
theorem isU_iff {n : Int} : isU n = true ↔ 0 ≤ n ∧ n < 18446744073709551616 := by simp only [isU, Bool.and_eq_true, decide_eq_true_eq]
theorem octs_len (n : Int) : (octs n).length = 8 := by simp [octs]
def digest_leaf.f (a0 : Int) : Option (Int) := if isU a0 then some (leafV a0) else none
theorem digest_leaf.calls (a0 : Int) (r : Int) (w : World) (h : digest_leaf.f a0 = some r) :
    Calls Tryd.prog 59 #[.int .u64 a0] w fun e w' => e = .returned (.int .u64 r) ∧ Below w.heap.size w w' := by
  unfold digest_leaf.f at h
  by_cases hu : isU a0 = true
  · rw [if_pos hu] at h
    obtain rfl := Option.some.inj h
    obtain ⟨h0, h1⟩ := isU_iff.1 hu
    obtain ⟨k, hk⟩ := (sum_ev (0 :: octs a0) (by rw [List.length_cons, octs_len]; omega)).rounds
    exact leaf_calls a0 w h0 h1 k _ hk
  · rw [if_neg hu] at h
    cases h
def digest_join.f (a0 : Int) (a1 : Int) : Option (Int) := if isU a0 && isU a1 then some (joinV a0 a1) else none
theorem digest_join.calls (a0 : Int) (a1 : Int) (r : Int) (w : World) (h : digest_join.f a0 a1 = some r) :
    Calls Tryd.prog 60 #[.int .u64 a0, .int .u64 a1] w fun e w' => e = .returned (.int .u64 r) ∧ Below w.heap.size w w' := by
  unfold digest_join.f at h
  by_cases hu : (isU a0 && isU a1) = true
  · rw [if_pos hu] at h
    obtain rfl := Option.some.inj h
    simp only [Bool.and_eq_true] at hu
    obtain ⟨h0, h1⟩ := isU_iff.1 hu.1
    obtain ⟨h2, h3⟩ := isU_iff.1 hu.2
    obtain ⟨k, hk⟩ := (sum_ev (1 :: (octs a0 ++ octs a1)) (by rw [List.length_cons, List.length_append, octs_len, octs_len]; omega)).rounds
    exact join_calls a0 a1 w h0 h1 h2 h3 k _ hk
  · rw [if_neg hu] at h
    cases h
end Go.Proofs.YtkdckjafhaadiaaDoor.P
