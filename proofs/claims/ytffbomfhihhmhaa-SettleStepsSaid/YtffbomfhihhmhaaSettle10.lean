/- The walk of package settle's Settle, where nothing is refused ahead of the loop. -/
import Derived.Test.YtffbomfhihhmhaaSettle9
import Derived.Test.YtffbomfhihhmhaaSettle7a
import Derived.Test.YtffbomfhihhmhaaBaseI
import Derived.IntWalk
set_option linter.unusedSimpArgs false
set_option linter.unusedVariables false
namespace Go.Proofs.Ytffbomfhihhmhaa.Settle
open Go Go.RowKit Go.Shelf Go.Proofs.Ytffbomfhihhmhaa.Ord Go.Proofs.Ytffbomfhihhmhaa.OrdI Go.Proofs.Ytffbomfhihhmhaa.Base
attribute [local go_sem] Oper.semAt_some

theorem three_boxes (w : World) : ∃ W0, ((w.alloc (.cells #[.slice none 0 0] 22)).alloc (.cells #[.int .i64 0] 3)).alloc (.cells #[.int .i64 0] 24) = W0 ∧ Ext w W0 ∧ W0.heap.size = w.heap.size + 3 ∧
    Boxed W0 w.heap.size 22 (.slice none 0 0) ∧ Boxed W0 (w.heap.size + 1) 3 (.int .i64 0) ∧ Boxed W0 (w.heap.size + 1 + 1) 24 (.int .i64 0) := by
  refine ⟨_, rfl, ((Ext.alloc _ _).trans (Ext.alloc _ _)).trans (Ext.alloc _ _), by simp, ((Boxed.new w _ _).alloc _).alloc _, ?_, ?_⟩
  · have := (Boxed.new (w.alloc (.cells #[.slice none 0 0] 22)) 3 (.int .i64 0)).alloc (.cells #[.int .i64 0] 24)
    rwa [World.size_alloc] at this
  · have := Boxed.new ((w.alloc (.cells #[.slice none 0 0] 22)).alloc (.cells #[.int .i64 0] 3)) 24 (.int .i64 0)
    rwa [World.size_alloc, World.size_alloc] at this

/-- The numbers of a pair that are looked at, in its box. -/
def PBox2 (W : World) (B : Nat) (x : Ch × Ch) : Prop :=
  W.cell? ⟨B, 1, none⟩ = some (.int .i64 x.1.cents) ∧ W.cell? ⟨B, 5, none⟩ = some (.int .i64 x.2.home) ∧ W.cell? ⟨B, 6, none⟩ = some (.int .i64 x.2.cents) ∧ W.cell? ⟨B, 7, none⟩ = some (.int .i64 x.2.lo) ∧ W.cell? ⟨B, 8, none⟩ = some (.int .i64 x.2.hi) ∧ W.cell? ⟨B, 9, none⟩ = some (.bool x.2.sure)
/-- What the code reckons of a pair, whatever the numbers are. -/
def dq (q : Ch × Ch) : Ch := ⟨q.2.home, wrap64 (q.2.cents - q.1.cents), wrap64 (q.2.lo - q.1.cents), wrap64 (q.2.hi - q.1.cents), q.2.sure⟩
def dqOk (q : Ch × Ch) : Bool := [wrap64 (q.2.cents - q.1.cents), wrap64 (q.2.lo - q.1.cents), wrap64 (q.2.hi - q.1.cents)].all amt
def AllD (v : Bool) (pre : List (Ch × Ch)) : Prop := pre.all dqOk = v
def dRow (pre : List (Ch × Ch)) : List Value := (pre.map dq).flatMap Ch.cells

theorem dRow_snoc (pre : List (Ch × Ch)) (x : Ch × Ch) : dRow (pre ++ [x]) = dRow pre ++ (dq x).cells := by simp [dRow]
theorem allD_snoc {pre : List (Ch × Ch)} {x : Ch × Ch} {v : Bool} (h : AllD true pre) (hx : dqOk x = v) : AllD v (pre ++ [x]) := by
  unfold AllD at *
  rw [List.all_append, h]
  simp [hx]
theorem dq_dif {x y : Ch} (hx : chRight x) (hy : chRight y) : dq (x, y) = dif x y ∧ dqOk (x, y) = difOk x y := by
  obtain ⟨_, _, h1, h2, h3, h4⟩ := hx
  obtain ⟨_, _, g1, g2, g3, g4⟩ := hy
  have e1 : wrap64 (y.cents - x.cents) = y.cents - x.cents := by unfold wrap64; omega
  have e2 : wrap64 (y.lo - x.cents) = y.lo - x.cents := by unfold wrap64; omega
  have e3 : wrap64 (y.hi - x.cents) = y.hi - x.cents := by unfold wrap64; omega
  constructor
  · simp only [dq, dif, e1, e2, e3]
  · simp only [dqOk, difOk, e1, e2, e3, List.all_cons, List.all_nil, Bool.and_true, Bool.and_assoc]
theorem dq_all : ∀ {a b : List Ch}, a.length = b.length → (∀ x ∈ a, chRight x) → (∀ x ∈ b, chRight x) → (a.zip b).map dq = difs a b ∧ (a.zip b).all dqOk = all2 difOk a b
  | [], [], _, _, _ => ⟨rfl, rfl⟩
  | [], _ :: _, h, _, _ => by simp at h
  | _ :: _, [], h, _, _ => by simp at h
  | x :: a, y :: b, h, ha, hb => by
    obtain ⟨e1, e2⟩ := dq_dif (ha x (by simp)) (hb y (by simp))
    obtain ⟨h1, h2⟩ := dq_all (a := a) (b := b) (by simpa using h) (fun z hz => ha z (by simp [hz])) (fun z hz => hb z (by simp [hz]))
    constructor
    · simp only [List.zip_cons_cons, List.map_cons, e1, h1, difs]
    · simp only [List.zip_cons_cons, List.all_cons, e2, h2, all2]

set_option maxRecDepth 100000 in
set_option maxHeartbeats 4000000 in
theorem Settle_go (a b : List Ch) (ho hn : Int) (A B : Option Addr) (c d : Nat) (w : World) (ha : a.length ≤ 9223372036854775807) (hb : b.length ≤ 9223372036854775807)
    (hA : RowsOf w 5 Ch.cells A a) (hB : RowsOf w 5 Ch.cells B b) (HG : Hid (charges a = true ∧ charges b = true ∧ all2 hq a b = true)) (e1 : amt ho = true) (e2 : amt hn = true) (e6 : amt (hn - ho) = true) (h4 : all2 wq a b = true) (h5 : cs a + ho = cs b + hn)
    (HV : Hid (settleS a b ho hn = if !(all2 difOk a b) then ⟨[], 0, 3⟩ else ⟨difs a b, hn - ho, 0⟩)) :
    Calls Try.prog 9 #[.slice A a.length c, .slice B b.length d, .int .i64 ho, .int .i64 hn] w (SetPost w (settleS a b ho hn)) := by
  have hlen := all2_eq_len HG.out.2.2
  obtain ⟨la, ra⟩ := charges_right HG.out.1
  obtain ⟨lb, rb⟩ := charges_right HG.out.2.1
  have bo : -1000000000 ≤ ho ∧ ho ≤ 1000000000 := by unfold amt at e1; simpa using e1
  have bn : -1000000000 ≤ hn ∧ hn ≤ 1000000000 := by unfold amt at e2; simpa using e2
  obtain ⟨W0, e0, x0, s0, b8, b9, b10⟩ := three_boxes w
  have c1 := pairs_yes a b A B c d W0 ha hb (hA.ext x0) (hB.ext x0) HG.out.1 HG.out.2.1 HG.out.2.2
  have c2 := fun w1 (h : Ext W0 w1) h1 h2 h3 h4 => within_calls a b A B c d W0.heap.size (W0.heap.size + 1) w w1 hlen la hA hB (x0.trans h) h1 h2 h3 h4
  rw [h4] at c2
  have s1 := fun W (h : Ext w W) => sum_calls a ho A c W la bo (fun x hx => by have := ra x hx; unfold chRight at this; omega) (hA.ext h)
  have s2 := fun W (h : Ext w W) => sum_calls b hn B d W lb bn (fun x hx => by have := rb x hx; unfold chRight at this; omega) (hB.ext h)
  rw [Int.add_comm ho, h5, Int.add_comm] at s1
  have i1 := fun W => f20 [ho, hn] (some ⟨W.heap.size, 0, none⟩) 2 (W.alloc (.cells #[.int .i64 ho, .int .i64 hn] 3)) (by simp) (elems_new W _ _)
  have i2 := fun W => f20 [hn - ho] (some ⟨W.heap.size, 0, none⟩) 1 (W.alloc (.cells #[.int .i64 (hn - ho)] 3)) (by simp) (elems_new W _ _)
  simp only [List.all_cons, List.all_nil, Bool.and_true, e1, e2, e6] at i1 i2
  have Hlen := Lib.hid hlen
  have HS0 := Lib.hid s0
  clear s0
  have HRA := Lib.hid ra
  have HRB := Lib.hid rb
  obtain ⟨bo1, bo2⟩ := bo
  obtain ⟨bn1, bn2⟩ := bn
  clear ra rb hlen h4 h5 e1 e2 e6
  refine (callsIn_wide (n := 3)).1 ?_
  refine callsIn_of_wp_marks Try.func9 rfl trivial ?_ rfl
  simp only [Try.ntmps9, List.size_toArray, List.length_cons, List.length_nil, Nat.reduceAdd, Nat.reduceSub, Array.replicate_succ, Array.replicate_zero, List.push_toArray, List.append_toArray, List.nil_append, List.cons_append]
  refine wpIn_wide.2 ?_
  go_wp2_with fail
  refine c1.mono ?_
  rintro e w1 ⟨rfl, hx1, hs1, q0, q1⟩
  go_wp2_with fail
  refine (i1 w1).mono ?_
  rintro e w2 ⟨rfl, hx2⟩
  have hx2' : Ext w1 w2 := (Ext.alloc _ _).trans hx2
  have c2' := c2 w2 (hx1.trans hx2') (by have := hx2'.size; omega) (by have := hx2'.size; omega) ((hx2'.cell (p := ⟨W0.heap.size, 0, none⟩) (by simp; omega)).trans q0) ((hx2'.cell (p := ⟨W0.heap.size + 1, 0, none⟩) (by simp; omega)).trans q1)
  go_wp2_with fail
  refine c2'.mono ?_
  rintro e w3 ⟨rfl, hx3⟩
  have hy3 := (hx1.trans hx2').trans hx3
  clear c2' hx2
  go_wp2_with fail
  refine (s1 w3 (x0.trans hy3)).mono ?_
  rintro e w4 ⟨rfl, hx4⟩
  go_wp2_with fail
  refine (s2 w4 (x0.trans (hy3.trans hx4))).mono ?_
  rintro e w5 ⟨rfl, hx5⟩
  go_wp2_with fail
  refine (i2 w5).mono ?_
  rintro e w6 ⟨rfl, hx6⟩
  have hx6' : Ext w5 w6 := (Ext.alloc _ _).trans hx6
  go_wp2_with fail
  have hw1 : Ext w w1 := x0.trans hx1
  have hw6 : Ext w1 w6 := (((hx2'.trans hx3).trans hx4).trans hx5).trans hx6'
  have hs01 : w.heap.size + 3 ≤ w1.heap.size := by have := HS0.out; omega
  have hseq := iter_stops a b A B c d W0.heap.size (W0.heap.size + 1) w w1 Hlen.out la hA hB hw1 (by omega) (by omega) q0 q1
  have bO := Boxed.new w6 22 (.slice none 0 0)
  obtain ⟨W2, hW2⟩ : ∃ W2, w6.alloc (.cells #[.slice none 0 0] 22) = W2 := ⟨_, rfl⟩
  have hE2 : Ext w1 W2 := hW2 ▸ hw6.trans (Ext.alloc _ _)
  have hE6 : Ext w6 W2 := hW2 ▸ Ext.alloc _ _
  rw [hW2] at bO ⊢
  have hz : W2.heap.size = w6.heap.size + 1 := by rw [← hW2]; simp
  have c8 := boxed_ext b8 (hx1.trans hE2)
  have c9 := boxed_ext b9 (hx1.trans hE2)
  have c10 := boxed_ext b10 (hx1.trans hE2)
  have hs8 : w.heap.size + 1 + 1 < w6.heap.size := by have := b10.lt; have := hx1.size; have := hw6.size; omega
  have hE0 : Ext w W2 := hw1.trans hE2
  clear hW2 q0 q1 hA hB c1 c2 s1 s2 i1 i2 b8 b9 b10 e0 hx1 hx2' hx3 hx4 hx5 hx6' hx6 hy3
  refine (wpIn_wide (n := 3)).1 ?_
  refine wpIn_rangeFunc_ownH rfl (by omega) (gf := 32) (lb := #[.pointer (some ⟨W0.heap.size, 0, none⟩), .pointer (some ⟨W0.heap.size + 1, 0, none⟩)]) rfl trivial (enters_of Try.func32 (by kernel_rfl) rfl)
    hseq belowK_t (belowK_b hE2.size) hE2 (fun _ => rfl)
    (fun pre W => AllD true pre ∧ Boxed W w.heap.size 22 (.slice none 0 0) ∧ Boxed W (w.heap.size + 1) 3 (.int .i64 0) ∧ Boxed W (w.heap.size + 1 + 1) 24 (.int .i64 0) ∧
      (∃ v, Boxed W w6.heap.size 22 v ∧ W.ownsRow w1.heap.size 36 5 v pre.length (dRow pre) ∧ True) ∧ Below w.heap.size w W)
    (fun cc pre W => (cc = .ret ∧ AllD false pre) ∧ Boxed W w.heap.size 22 (.slice none 0 0) ∧ Boxed W (w.heap.size + 1) 3 (.int .i64 0) ∧ Boxed W (w.heap.size + 1 + 1) 24 (.int .i64 3) ∧ Below w.heap.size w W)
    (OwnFrom.and (ownFrom_pure _ _) (OwnFrom.and (Own.from (boxed_own _ _ _) _) (OwnFrom.and (Own.from (boxed_own _ _ _) _) (OwnFrom.and (Own.from (boxed_own _ _ _) _)
      (OwnFrom.and (Own.from (holdsRow_own _ _ _ _ _ (fun pre => pre.length) (fun pre => dRow pre) (fun _ _ => True)) _) (ownFrom_below (Nat.le_refl _) hE0.size))))))
    (fun cc => OwnFrom.and (ownFrom_pure _ _) (OwnFrom.and (Own.from (boxed_own _ _ _) _) (OwnFrom.and (Own.from (boxed_own _ _ _) _) (OwnFrom.and (Own.from (boxed_own _ _ _) _) (ownFrom_below (Nat.le_refl _) hE0.size)))))
    ⟨rfl, c8, c9, c10, ⟨_, bO, World.ownsRow_nil _ _ _ _, trivial⟩, hE0⟩
    (fun x a' W => ∃ Bx, w6.heap.size < Bx ∧ PBox2 W Bx x ∧ a' = { tmps := #[.slice A a.length c, .slice B b.length d, .int .i64 ho, .int .i64 hn, undef, undef, undef, undef, .pointer (some ⟨w.heap.size, 0, none⟩), .pointer (some ⟨w.heap.size + 1, 0, none⟩), .pointer (some ⟨w.heap.size + 1 + 1, 0, none⟩), .func (.func 32) #[] #[.pointer (some ⟨W0.heap.size, 0, none⟩), .pointer (some ⟨W0.heap.size + 1, 0, none⟩)], .bool true, .pointer (some ⟨w6.heap.size, 0, none⟩), .pointer (some ⟨Bx, 0, none⟩), undef, undef, .tuple #[.func (.func 32) #[] #[.pointer (some ⟨W0.heap.size, 0, none⟩), .pointer (some ⟨W0.heap.size + 1, 0, none⟩)], .bool true], .slice A a.length c, .slice B b.length d, .tuple #[.func (.func 32) #[] #[.pointer (some ⟨W0.heap.size, 0, none⟩), .pointer (some ⟨W0.heap.size + 1, 0, none⟩)], .bool true], .func (.func 32) #[] #[.pointer (some ⟨W0.heap.size, 0, none⟩), .pointer (some ⟨W0.heap.size + 1, 0, none⟩)], .bool true, .bool false, .bool true, .bool false, .bool false, .int .i64 ho, .int .i64 hn, .slice (some ⟨w1.heap.size, 0, none⟩) 2 2, .bool true, .bool false, .bool false, .bool false, .func (.func 32) #[] #[.pointer (some ⟨W0.heap.size, 0, none⟩), .pointer (some ⟨W0.heap.size + 1, 0, none⟩)], .bool true, .bool false, .bool false, .slice A a.length c, .int .i64 ho, .int .i64 (hn + cs b), .slice B b.length d, .int .i64 hn, .int .i64 (hn + cs b), .bool false, .bool false, .int .i64 hn, .int .i64 ho, .int .i64 (hn - ho), .slice (some ⟨w5.heap.size, 0, none⟩) 1 1, .bool true, .bool false, .func (.func 32) #[] #[.pointer (some ⟨W0.heap.size, 0, none⟩), .pointer (some ⟨W0.heap.size + 1, 0, none⟩)], pairV x, undef, undef, undef, undef, undef, undef, undef, undef, undef, undef, undef, undef, undef, undef, undef, undef, undef, undef, undef, undef, undef, undef, undef, undef, undef, undef, undef, undef, undef, undef, undef, undef, undef, undef, undef, undef, undef, undef, undef, undef, undef, undef, undef], defers := [] })
    (fun x a' _ X Y row hs hg hr => by
      obtain ⟨Bx, h1, ⟨h2, h3, h4, h5, h6, h7⟩, h8⟩ := hs
      have hr' : ∀ r, row = some r → ∃ o : Obj, X.heap[r]? = some o ∧ o.isCells = false := fun r e => (hr r e).2
      exact ⟨Bx, h1, ⟨cell_kept h2 hg hr', cell_kept h3 hg hr', cell_kept h4 hg hr', cell_kept h5 hg hr', cell_kept h6 hg hr', cell_kept h7 hg hr'⟩, h8⟩)
    ?assign ?body ?done ?stop
  case assign =>
    rintro l pre x W K ⟨hp, k8, k9, k10, ⟨v, kO, hrow, _⟩, hBw⟩ hK
    unfold pairV
    gi_wp2
    exact hK _ _ ((KeepsOthers.alloc _ _).from _) ((Below.refl _ W).alloc (Nat.le_trans (Nat.le_trans hE2.size (by have := kO.lt; omega)) (Nat.le_refl _)) _) ⟨hp, k8.alloc _, k9.alloc _, k10.alloc _, ⟨v, kO.alloc _, hrow.alloc _, trivial⟩, hBw.alloc hBw.size _⟩
      ⟨W.heap.size, kO.lt, ⟨(cell_of_row _ _ 1 _ _ (0, 0) (heap_alloc_new W _)).trans rfl, (cell_of_row _ _ 5 _ _ (0, 0) (heap_alloc_new W _)).trans rfl, (cell_of_row _ _ 6 _ _ (0, 0) (heap_alloc_new W _)).trans rfl, (cell_of_row _ _ 7 _ _ (0, 0) (heap_alloc_new W _)).trans rfl, (cell_of_row _ _ 8 _ _ (0, 0) (heap_alloc_new W _)).trans rfl, (cell_of_row _ _ 9 _ _ (0, 0) (heap_alloc_new W _)).trans rfl⟩, rfl⟩
  case body =>
    rintro l pre x a' W hl ⟨r, hr⟩ ⟨hp, k8, k9, k10, ⟨v, kO, hrow, _⟩, hBw⟩ ⟨Bx, hBx, ⟨p1, p5, p6, p7, p8, p9⟩, rfl⟩ hlt
    have hF : ∀ f, (Fence.wide.inRound l).fn f := fun _ => trivial
    have q8 := k8.cell
    have f8 := k8.frozen
    have q9 := k9.cell
    have f9 := k9.frozen
    have q10 := k10.cell
    have f10 := k10.frozen
    have qO := kO.cell
    have fO := kO.frozen
    have lB : Bx < W.heap.size := World.block_lt_of_cell? W _ p1
    have cb : ∀ W1, Held (Ext W) W1 → PBox2 W1 Bx x := fun W1 hW => ⟨(Below.cell hW lB).trans p1, (Below.cell hW lB).trans p5, (Below.cell hW lB).trans p6, (Below.cell hW lB).trans p7, (Below.cell hW lB).trans p8, (Below.cell hW lB).trans p9⟩
    simp only [PBox2] at cb
    unfold pairV
    gi_wp2
    refine wpIn_region_auto (Ext W) ((0, none, none) :: (0, none, none) :: (0, none, none) :: (0, none, none) :: (0, none, none) :: (0, none, some true) :: (0, none, some true) :: (0, none, some false) :: []) hF (by kernel_rfl) (by kernel_rfl) (fun _ _ d _ _ h => by cases d <;> exact h) (Ext.drew _) ?_
    repeat' (first
      | (with_reducible apply relI_pass
         focus (intro W hW; first | (go_simp; exact rfl) | go_simp)
         simp only [Act.put, List.setIfInBounds_toArray, List.set_cons_zero, List.set_cons_succ])
      | (with_reducible apply relI_yes
         focus (exact rfl))
      | (with_reducible apply relI_no
         focus (exact rfl)
         simp only [Act.put, List.setIfInBounds_toArray, List.set_cons_zero, List.set_cons_succ])
      | (with_reducible apply relI_askF
         focus (exact rfl)
         all_goals (intro hb; simp only [hb, Act.put, List.setIfInBounds_toArray, List.set_cons_zero, List.set_cons_succ]))
      | (with_reducible apply relI_askT
         focus (exact rfl)
         all_goals (intro hb; simp only [hb, Act.put, List.setIfInBounds_toArray, List.set_cons_zero, List.set_cons_succ]))
      | (with_reducible apply relI_front1)
      | (with_reducible apply relI_front2)
      | (with_reducible apply relI_front3)
      | (with_reducible apply relI_front4)
      | (with_reducible apply relI_front5)
      | (with_reducible apply relI_front6))
    apply relI_act hF rfl
    intro K hK
    go_simp
    refine hK _ _ ⟨fun _ => ?_, ?_⟩
    · repeat (first | exact Ext.refl _ | assumption | refine Ext.trans ?_ (Ext.drew _) | refine Ext.trans ?_ (Ext.alloc _ _) | refine Ext.set ?_ (by simp; try omega) _)
    clear hK K
    try simp only [Act.put, List.setIfInBounds_toArray, List.set_cons_zero, List.set_cons_succ]
    repeat' (first
      | (with_reducible apply relI_pass
         focus (intro W hW; first | (go_simp; exact rfl) | go_simp)
         simp only [Act.put, List.setIfInBounds_toArray, List.set_cons_zero, List.set_cons_succ])
      | (with_reducible apply relI_yes
         focus (exact rfl))
      | (with_reducible apply relI_no
         focus (exact rfl)
         simp only [Act.put, List.setIfInBounds_toArray, List.set_cons_zero, List.set_cons_succ])
      | (with_reducible apply relI_askF
         focus (exact rfl)
         all_goals (intro hb; simp only [hb, Act.put, List.setIfInBounds_toArray, List.set_cons_zero, List.set_cons_succ]))
      | (with_reducible apply relI_askT
         focus (exact rfl)
         all_goals (intro hb; simp only [hb, Act.put, List.setIfInBounds_toArray, List.set_cons_zero, List.set_cons_succ]))
      | (with_reducible apply relI_front1)
      | (with_reducible apply relI_front2)
      | (with_reducible apply relI_front3)
      | (with_reducible apply relI_front4)
      | (with_reducible apply relI_front5)
      | (with_reducible apply relI_front6))
    apply relI_act hF rfl
    intro K hK
    go_simp
    refine hK _ _ ⟨fun _ => ?_, ?_⟩
    · repeat (first | exact Ext.refl _ | assumption | refine Ext.trans ?_ (Ext.drew _) | refine Ext.trans ?_ (Ext.alloc _ _) | refine Ext.set ?_ (by simp; try omega) _)
    clear hK K
    try simp only [Act.put, List.setIfInBounds_toArray, List.set_cons_zero, List.set_cons_succ]
    apply relI_act hF rfl
    intro K hK
    go_simp
    refine hK _ _ ⟨fun h => (by cases h), ?_⟩
    clear hK K
    try simp only [Act.put, List.setIfInBounds_toArray, List.set_cons_zero, List.set_cons_succ]
    apply relI_nil
    simp only [Exit.then, Exit.inBlock]
    gi_wp2
    have hE : Elems (((W.alloc (.cells #[.int .i64 x.2.home, .int .i64 (wrap64 (x.2.cents - x.1.cents)), .int .i64 (wrap64 (x.2.lo - x.1.cents)), .int .i64 (wrap64 (x.2.hi - x.1.cents)), .bool x.2.sure] 36)).alloc (.cells #[.int .i64 (wrap64 (x.2.cents - x.1.cents)), .int .i64 (wrap64 (x.2.lo - x.1.cents)), .int .i64 (wrap64 (x.2.hi - x.1.cents))] 3)).drew) (some ⟨W.heap.size + 1, 0, none⟩) ([wrap64 (x.2.cents - x.1.cents), wrap64 (x.2.lo - x.1.cents), wrap64 (x.2.hi - x.1.cents)].map (Value.int .i64)) := by
      have h := (elems_new (W.alloc (.cells #[.int .i64 x.2.home, .int .i64 (wrap64 (x.2.cents - x.1.cents)), .int .i64 (wrap64 (x.2.lo - x.1.cents)), .int .i64 (wrap64 (x.2.hi - x.1.cents)), .bool x.2.sure] 36)) [.int .i64 (wrap64 (x.2.cents - x.1.cents)), .int .i64 (wrap64 (x.2.lo - x.1.cents)), .int .i64 (wrap64 (x.2.hi - x.1.cents))] 3).ext (Ext.drew _)
      rwa [World.size_alloc] at h
    refine (CallsIn.inRound l (callsIn_wide.2 (f20 _ _ 3 _ (by simp) hE))).mono ?_
    rintro e W3 ⟨rfl, hx3⟩
    have hW3 : Ext W W3 := ((Ext.alloc _ _).trans ((Ext.alloc _ _).trans (Ext.drew _))).trans hx3
    have hX : W3.heap[W.heap.size]? = some (.cells #[.int .i64 x.2.home, .int .i64 (wrap64 (x.2.cents - x.1.cents)), .int .i64 (wrap64 (x.2.lo - x.1.cents)), .int .i64 (wrap64 (x.2.hi - x.1.cents)), .bool x.2.sure] 36 (0, 0)) :=
      (hx3.block W.heap.size (by simp [World.drew]; omega)).trans ((heap_alloc_old _ _ (by simp)).trans (heap_alloc_new W _))
    have y0 := cell_of_row _ _ 0 _ _ _ hX
    have y1 := cell_of_row _ _ 1 _ _ _ hX
    have y2 := cell_of_row _ _ 2 _ _ _ hX
    have y3 := cell_of_row _ _ 3 _ _ _ hX
    have y4 := cell_of_row _ _ 4 _ _ _ hX
    have z8 := boxed_ext k8 hW3
    have z9 := boxed_ext k9 hW3
    have z10 := boxed_ext k10 hW3
    have zO := boxed_ext kO hW3
    have zR := own_keep hrow hW3
    have r8 := z8.cell
    have g8 := z8.frozen
    have r9 := z9.cell
    have g9 := z9.frozen
    have r10 := z10.cell
    have g10 := z10.frozen
    have rO := zO.cell
    have gO := zO.frozen
    have hK3 := keepsFrom_ext W2.heap.size hW3
    have hB3 : Below w.heap.size w W3 := hBw.trans (Below.mono hW3 hBw.size)
    have hsW : w1.heap.size ≤ w6.heap.size := hw6.size
    have hkb : (pre.length + 1) * 40 ≤ 140737488355328 := by omega
    have hW6 : w6.heap.size ≤ W3.heap.size := by have := zO.lt; omega
    have hkp : Below w1.heap.size W W3 := Below.mono hW3 (by have := kO.lt; omega)
    clear q8 f8 q9 f9 q10 f10 qO fO k8 k9 k10 kO hrow hBw p1 p5 p6 p7 p8 p9 hx3 hX hE cb
    cases hd : dqOk x
    · have hd' := hd
      unfold dqOk at hd'
      rw [hd']
      gi_wp2
      exact ⟨(keepsFrom_ext _ hW3).trans ((((KeepsOthers.setCell _ _ _).trans (KeepsOthers.setCell _ _ _)).trans (KeepsOthers.setCell _ _ _)).from _), ⟨rfl, allD_snoc hp hd⟩, ((z8.set _).other (by omega) _).other (by omega) _, ((z9.other (by omega) _).set _).other (by omega) _, ((z10.other (by omega) _).other (by omega) _).set _,
        ((hB3.setCell (p := ⟨w.heap.size, 0, none⟩) (Nat.le_refl _) _).setCell (p := ⟨w.heap.size + 1, 0, none⟩) (by simp) _).setCell (p := ⟨w.heap.size + 1 + 1, 0, none⟩) (by simp; omega) _⟩
    · have hd' := hd
      unfold dqOk at hd'
      rw [hd']
      gi_wp2_with (gi_at_builtin; apply app_ownI w1.heap.size 22 (.agg #[.int .i64 0, .int .i64 0, .int .i64 0, .int .i64 0, .bool false]) 5 40 pre.length; (case hgd => rfl); (case ho => rfl); (case ht => exact Try.underlying22); (case hinfo => exact info36); (case hz => rfl); (case hsz => decide); (case hb0 => decide); (case hs => rfl); (case hx => rfl); (case hB => simp); (case hc => rfl); (case h1 => simp [Value.oneCell']); (case HO => exact zR); (case hbase => omega); (case hl => exact hkb); intro v1 w7 hown1 hg1; obtain ⟨g', cap', rfl⟩ := ownsRow_succ hown1; obtain ⟨hv1, hv2, hr2, hk2, hb2⟩ := zO.appended (by decide) zR (by omega) (by omega) hown1 hg1; have hc1 := hv1.cell; have hf1 := hv1.frozen)
      exact ⟨(keepsFrom_ext _ hW3).trans (hk2.from _), Below.trans hkp hb2, allD_snoc hp hd, (hb2.block _ (by omega)).trans z8, (hb2.block _ (by omega)).trans z9, (hb2.block _ (by omega)).trans z10, ⟨_, hv2, by rw [dRow_snoc, List.length_append]; exact hr2⟩, hB3.trans (Below.mono hb2 (by omega))⟩
  case done =>
    rintro D zs W hD hzs ⟨hp, k8, k9, k10, ⟨v, kO, hrow, _⟩, hBw⟩ hK
    obtain ⟨A1, cc1, rfl⟩ := row_slice hrow
    have HZ := Lib.hid hzs
    clear hzs
    have q8 := k8.cell
    have f8 := k8.frozen
    have q9 := k9.cell
    have f9 := k9.frozen
    have q10 := k10.cell
    have f10 := k10.frozen
    have qO := kO.cell
    go_wp2_with fail
    have hK' := ((((KeepsOthers.setCell W ⟨w.heap.size, 0, none⟩ (.slice A1 zs.length cc1)).trans (KeepsOthers.setCell _ ⟨w.heap.size + 1, 0, none⟩ (.int .i64 (hn - ho)))).trans (KeepsOthers.setCell _ ⟨w.heap.size + 1 + 1, 0, none⟩ (.int .i64 0)))).same D _ hK rfl
    refine ⟨by simp, .inl ⟨_, _, rfl, run_takeDeferred hK', ?_⟩⟩
    obtain ⟨d1, d2⟩ := dq_all Hlen.out HRA.out HRB.out
    rw [← HZ.out] at d1 d2
    have m8 := ((k8.set (.slice A1 zs.length cc1)).other (B' := w.heap.size + 1) (by omega) (.int .i64 (hn - ho))).other (B' := w.heap.size + 1 + 1) (by omega) (.int .i64 0)
    have m9 := ((k9.other (B' := w.heap.size) (by omega) (.slice A1 zs.length cc1)).set (.int .i64 (hn - ho))).other (B' := w.heap.size + 1 + 1) (by omega) (.int .i64 0)
    have m10 := ((k10.other (B' := w.heap.size) (by omega) (.slice A1 zs.length cc1)).other (B' := w.heap.size + 1) (by omega) (.int .i64 (hn - ho))).set (.int .i64 0)
    have hR := row_set ((k10.other (B' := w.heap.size) (by omega) (.slice A1 zs.length cc1)).other (B' := w.heap.size + 1) (by omega) (.int .i64 (hn - ho))) (by decide) (row_set (k9.other (B' := w.heap.size) (by omega) (.slice A1 zs.length cc1)) (by decide) (row_set k8 (by decide) hrow (.slice A1 zs.length cc1)) (.int .i64 (hn - ho))) (.int .i64 0)
    have u8 := cell_kept m8.cell (grownBy_putObj' _ D (.deferred none)) (fun r e => by cases e; exact ⟨_, hK', rfl⟩)
    have u9 := cell_kept m9.cell (grownBy_putObj' _ D (.deferred none)) (fun r e => by cases e; exact ⟨_, hK', rfl⟩)
    have u10 := cell_kept m10.cell (grownBy_putObj' _ D (.deferred none)) (fun r e => by cases e; exact ⟨_, hK', rfl⟩)
    have hB4 := ((hBw.setCell (p := ⟨w.heap.size, 0, none⟩) (Nat.le_refl _) (.slice A1 zs.length cc1)).setCell (p := ⟨w.heap.size + 1, 0, none⟩) (by simp) (.int .i64 (hn - ho))).setCell (p := ⟨w.heap.size + 1 + 1, 0, none⟩) (by simp; omega) (.int .i64 0)
    refine ⟨.tuple #[.slice A1 zs.length cc1, .int .i64 (hn - ho), .int .i64 0], ?_, ?_⟩
    · simp [results, Try.f9, go_sem, u8, u9, u10]
    · have hv : all2 difOk a b = true := by rw [← d2]; exact hp
      have hln : zs.length = (difs a b).length := by rw [← d1, List.length_map]
      rw [HV.out, hv]
      refine ⟨_, rfl, ?_, hB4.trans (belowK_b (w := w) (Nat.le_refl _) _ D _ _ (by omega) hK' rfl rfl)⟩
      have hR2 := row_weak (ownsRow_putObj hR (.deferred none) hK' rfl) (b' := w.heap.size) (by omega)
      unfold dRow at hR2
      rw [d1] at hR2
      simp only [Bool.not_true, Bool.false_eq_true, if_false]
      rw [← hln]
      exact hR2
  case stop =>
    rintro D cc pre W hD hpre ⟨⟨rfl, hp⟩, k8, k9, k10, hBw⟩ hK
    have q8 := k8.cell
    have q9 := k9.cell
    have q10 := k10.cell
    gi_wp2
    refine ⟨by simp, .inl ⟨_, _, rfl, run_takeDeferred hK, ?_⟩⟩
    have u8 := cell_kept q8 (grownBy_putObj' _ D (.deferred none)) (fun r e => by cases e; exact ⟨_, hK, rfl⟩)
    have u9 := cell_kept q9 (grownBy_putObj' _ D (.deferred none)) (fun r e => by cases e; exact ⟨_, hK, rfl⟩)
    have u10 := cell_kept q10 (grownBy_putObj' _ D (.deferred none)) (fun r e => by cases e; exact ⟨_, hK, rfl⟩)
    have hv : all2 difOk a b = false := by
      obtain ⟨r, hr⟩ := hpre
      rw [← (dq_all Hlen.out HRA.out HRB.out).2, ← hr, List.all_append]
      unfold AllD at hp
      rw [hp]
      rfl
    refine ⟨_, ?_, setPost_err (by rw [HV.out, hv]; rfl) (hBw.trans (belowK_b (w := w) (Nat.le_refl _) W D _ _ (by omega) hK rfl rfl))⟩
    simp [results, Try.f9, go_sem, u8, u9, u10]
end Go.Proofs.Ytffbomfhihhmhaa.Settle
