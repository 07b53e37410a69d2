/- Chapter 32: what a step does to a book (capital's take). -/
import Derived.Test.YtdhnojfpgpjabaaDoorXvalid
import Derived.Test.YtdhnojfpgpjabaaDoorRf
import Derived.Test.YtdhnojfpgpjabaaDoorOrdI
set_option linter.unusedSimpArgs false
set_option linter.unusedVariables false
namespace Go.Proofs.YtdhnojfpgpjabaaDoor.P
open Go Go.RowKit Go.Proofs.YtdhnojfpgpjabaaDoorW.PrintWords Go.Proofs.YtdhnojfpgpjabaaDoorW.PrintLast Go.Proofs.YtdhnojfpgpjabaaDoorW.PrintMore Go.Proofs.YtdhnojfpgpjabaaDoor.Ord Go.Proofs.YtdhnojfpgpjabaaDoor.OrdI

structure Bk where
  paid : Int
  lien : Int
  price : Int
  rate : Int
  notice : Bool
def Bk.cells (b : Bk) : List Value := [.int .i64 b.paid, .int .i64 b.lien, .int .i64 b.price, .int .i64 b.rate, .bool b.notice]
/-- A step of a kind, taken. -/
def takeV (b : Bk) (kind cents : Int) : Bk × Bool :=
  if kind = 1 then ({ b with paid := wrap64 (b.paid + cents) }, !b.notice && amtB (wrap64 (b.paid + cents)))
  else if kind = 2 then ({ b with price := cents }, true)
  else if kind = 3 then ({ b with rate := cents }, true)
  else if kind = 4 then ({ b with lien := wrap64 (b.lien + cents) }, amtB (wrap64 (b.lien + cents)))
  else if kind = 5 then ({ b with lien := wrap64 (b.lien - cents) }, decide (wrap64 (b.lien - cents) ≥ 0))
  else if kind = 6 then ({ b with notice := true }, !b.notice)
  else (b, true)
/-- A book in a block of its own. -/
def BookAt (w : World) (g : Nat) (b : Bk) : Prop := Blk w g 55 b.cells
/-- Behind a step: the answer, the book, and all else as it lay. -/
def TakePost (w : World) (g : Nat) (b : Bk) (kind cents : Int) (e : Ending) (w' : World) : Prop :=
  e = .returned (.bool (takeV b kind cents).2) ∧ BookAt w' g (takeV b kind cents).1 ∧ KeepsBut (fun k => k = g) w w'
/-- What is known of the book where a step has been laid beside it. -/
theorem take_facts {b : Bk} {g : Nat} {w : World} (h : BookAt w g b) (o : Obj) :
    (w.alloc o).cell? ⟨g, 0, none⟩ = some (.int .i64 b.paid) ∧ (w.alloc o).cell? ⟨g, 1, none⟩ = some (.int .i64 b.lien) ∧ (w.alloc o).cell? ⟨g, 2, none⟩ = some (.int .i64 b.price) ∧ (w.alloc o).cell? ⟨g, 3, none⟩ = some (.int .i64 b.rate) ∧
    (w.alloc o).cell? ⟨g, 4, none⟩ = some (.bool b.notice) ∧ ∀ j, (w.alloc o).frozen? ⟨g, j, none⟩ = false :=
  have h := h.alloc o
  ⟨h.cell 0 _ rfl, h.cell 1 _ rfl, h.cell 2 _ rfl, h.cell 3 _ rfl, h.cell 4 _ rfl, fun j => h.frozen j⟩
theorem take_kept (w : World) (o : Obj) (g i : Nat) (v : Value) : KeepsBut (fun k => k = g) w ((w.alloc o).setCell ⟨g, i, none⟩ v) := (KeepsBut.alloc w o).trans (KeepsBut.set _ _ _ _ rfl)
theorem take_two (b : Bk) (day cents : Int) (g : Nat) (w : World) (h : BookAt w g b) :
    Calls Tryd.prog 29 #[.pointer (some ⟨g, 0, none⟩), .agg #[.int .i64 2, .int .i64 day, .int .i64 cents]] w (TakePost w g b 2 cents) := by
  have c := take_facts h
  have HB := Lib.hid h
  clear h
  obtain ⟨c0, c1, c2, c3, c4, f⟩ := c (Obj.cells #[Value.int IntKind.i64 2, Value.int IntKind.i64 day, Value.int IntKind.i64 cents] 36)
  clear c
  go_enter Tryd.func29, Tryd.ntmps29
  go_wp2_with fail
  go_ret
  exact ⟨rfl, (HB.out.alloc _).set 2 _, take_kept _ _ _ _ _⟩
theorem take_three (b : Bk) (day cents : Int) (g : Nat) (w : World) (h : BookAt w g b) :
    Calls Tryd.prog 29 #[.pointer (some ⟨g, 0, none⟩), .agg #[.int .i64 3, .int .i64 day, .int .i64 cents]] w (TakePost w g b 3 cents) := by
  have c := take_facts h
  have HB := Lib.hid h
  clear h
  obtain ⟨c0, c1, c2, c3, c4, f⟩ := c (Obj.cells #[Value.int IntKind.i64 3, Value.int IntKind.i64 day, Value.int IntKind.i64 cents] 36)
  clear c
  go_enter Tryd.func29, Tryd.ntmps29
  go_wp2_with fail
  go_ret
  exact ⟨rfl, (HB.out.alloc _).set 3 _, take_kept _ _ _ _ _⟩
theorem take_six (b : Bk) (day cents : Int) (g : Nat) (w : World) (h : BookAt w g b) :
    Calls Tryd.prog 29 #[.pointer (some ⟨g, 0, none⟩), .agg #[.int .i64 6, .int .i64 day, .int .i64 cents]] w (TakePost w g b 6 cents) := by
  have c := take_facts h
  have HB := Lib.hid h
  clear h
  obtain ⟨c0, c1, c2, c3, c4, f⟩ := c (Obj.cells #[Value.int IntKind.i64 6, Value.int IntKind.i64 day, Value.int IntKind.i64 cents] 36)
  clear c
  go_enter Tryd.func29, Tryd.ntmps29
  go_wp2_with fail
  go_ret
  exact ⟨rfl, (HB.out.alloc _).set 4 _, take_kept _ _ _ _ _⟩
set_option maxHeartbeats 1000000 in
theorem take_one (b : Bk) (day cents : Int) (g : Nat) (w : World) (h : BookAt w g b) (hT : ∀ W, KeepsBut (fun k => k = g) w W → TabOk W) :
    Calls Tryd.prog 29 #[.pointer (some ⟨g, 0, none⟩), .agg #[.int .i64 1, .int .i64 day, .int .i64 cents]] w (TakePost w g b 1 cents) := by
  obtain ⟨W0, hW0⟩ : ∃ W, w.alloc (Obj.cells #[Value.int IntKind.i64 1, Value.int IntKind.i64 day, Value.int IntKind.i64 cents] 36) = W := ⟨_, rfl⟩
  have hb : Blk W0 g 55 b.cells := by rw [← hW0]; exact Blk.alloc h _
  have hs : Blk W0 w.heap.size 36 [.int .i64 1, .int .i64 day, .int .i64 cents] := by rw [← hW0]; exact Blk.new w _ _
  have hk : KeepsBut (fun k => k = g) w W0 := by rw [← hW0]; exact KeepsBut.alloc _ _
  have hl := h.lt
  have hg := fun W (hW : Held (Below W0.heap.size W0) W) => (hb.below hW hb.lt).cell 0 _ rfl
  have hf := fun W (hW : Held (Below W0.heap.size W0) W) => (hb.below hW hb.lt).frozen 0
  have hc := fun W (hW : Held (Below W0.heap.size W0) W) => (hs.below hW hs.lt).cell 2 _ rfl
  have HB := Lib.hid hb
  have HK := Lib.hid hk
  have HS := Lib.hid hs
  have HT := Lib.hid hT
  have HW := Lib.hid hW0
  clear h hb hk hs hT hW0 hl
  go_enter Tryd.func29, Tryd.ntmps29
  go_wp2_with fail
  rw [HW.out]
  clear HW
  have g1 := hg W0.drew (Below.refl _ W0).drew
  have f1 := hf W0.drew (Below.refl _ W0).drew
  have hF : ∀ f, Fence.wide.fn f := fun _ => trivial
  refine (wpIn_wide (n := 3)).1 ?_
  refine wpIn_region_auto (Below W0.heap.size W0) ((0, none, none) :: (0, none, none) :: (0, none, none) :: (0, none, none) :: (0, none, none) :: (0, none, none) :: (0, none, none) :: (0, none, none) :: (0, none, none) :: (0, none, none) :: (0, none, none) :: (0, none, some false) :: []) hF (by kernel_rfl) (by kernel_rfl) (fun _ _ d _ _ h => by cases d <;> exact h) ((Below.refl _ W0).drew) ?_
  repeat' (first
    | (with_reducible apply relI_pass
       focus (intro W hW; first | (go_simp; exact rfl) | go_simp)
       simp only [Act.put, List.setIfInBounds_toArray, List.set_cons_zero, List.set_cons_succ])
    | (with_reducible apply relI_yes
       focus (exact rfl))
    | (with_reducible apply relI_no
       focus (exact rfl)
       simp only [Act.put, List.setIfInBounds_toArray, List.set_cons_zero, List.set_cons_succ])
    | (with_reducible apply relI_askF
       focus (exact rfl)
       all_goals (intro hb; simp only [hb, Act.put, List.setIfInBounds_toArray, List.set_cons_zero, List.set_cons_succ]))
    | (with_reducible apply relI_askT
       focus (exact rfl)
       all_goals (intro hb; simp only [hb, Act.put, List.setIfInBounds_toArray, List.set_cons_zero, List.set_cons_succ]))
    | (with_reducible apply relI_front1)
    | (with_reducible apply relI_front2)
    | (with_reducible apply relI_front3)
    | (with_reducible apply relI_front4)
    | (with_reducible apply relI_front5)
    | (with_reducible apply relI_front6))
  apply relI_act hF rfl
  intro K hK
  go_simp
  refine hK _ _ ⟨fun h => (by cases h), ?_⟩
  clear hK K
  try simp only [Act.put, List.setIfInBounds_toArray, List.set_cons_zero, List.set_cons_succ]
  apply relI_nil
  simp only [Exit.then, Exit.inBlock]
  rw [IntWalk.i64_left]
  have hB2 : Blk ((W0.setCell ⟨g, 0, none⟩ (.int .i64 (wrap64 (b.paid + cents)))).drew) g 55 (b.cells.set 0 (.int .i64 (wrap64 (b.paid + cents)))) := (HB.out.set 0 _).drew
  have hK2 : KeepsBut (fun k => k = g) w ((W0.setCell ⟨g, 0, none⟩ (.int .i64 (wrap64 (b.paid + cents)))).drew) := (HK.out.trans (KeepsBut.set _ _ _ _ rfl)).trans (KeepsBut.drew _)
  generalize (W0.setCell ⟨g, 0, none⟩ (.int .i64 (wrap64 (b.paid + cents)))).drew = W2 at hB2 hK2 ⊢
  have d0 := hB2.cell 0 _ rfl
  have d4 := hB2.cell 4 _ rfl
  cases hn : b.notice with
  | true =>
    rw [show b.cells.set 0 (.int .i64 (wrap64 (b.paid + cents))) = [.int .i64 (wrap64 (b.paid + cents)), .int .i64 b.lien, .int .i64 b.price, .int .i64 b.rate, .bool true] from by rw [← hn]; rfl] at hB2
    rw [hn] at d4
    go_wp2_with fail
    go_ret
    exact ⟨by simp [takeV, hn], by unfold BookAt takeV; simp [Bk.cells, hn]; exact hB2, hK2⟩
  | false =>
    rw [hn] at d4
    have C := valid_calls (wrap64 (b.paid + cents)) W2 (HT.out _ hK2)
    have HB2 := Lib.hid hB2
    clear hB2
    go_wp2_with fail
    refine C.mono ?_
    rintro e W3 ⟨rfl, hb3⟩
    go_wp2_with fail
    go_ret
    exact ⟨by simp [takeV, hn], (HB2.out).below hb3 HB2.out.lt, hK2.trans (.of_below hb3)⟩
set_option maxHeartbeats 1000000 in
theorem take_four (b : Bk) (day cents : Int) (g : Nat) (w : World) (h : BookAt w g b) (hT : ∀ W, KeepsBut (fun k => k = g) w W → TabOk W) :
    Calls Tryd.prog 29 #[.pointer (some ⟨g, 0, none⟩), .agg #[.int .i64 4, .int .i64 day, .int .i64 cents]] w (TakePost w g b 4 cents) := by
  obtain ⟨W0, hW0⟩ : ∃ W, w.alloc (Obj.cells #[Value.int IntKind.i64 4, Value.int IntKind.i64 day, Value.int IntKind.i64 cents] 36) = W := ⟨_, rfl⟩
  have hb : Blk W0 g 55 b.cells := by rw [← hW0]; exact Blk.alloc h _
  have hs : Blk W0 w.heap.size 36 [.int .i64 4, .int .i64 day, .int .i64 cents] := by rw [← hW0]; exact Blk.new w _ _
  have hk : KeepsBut (fun k => k = g) w W0 := by rw [← hW0]; exact KeepsBut.alloc _ _
  have hl := h.lt
  have hg := fun W (hW : Held (Below W0.heap.size W0) W) => (hb.below hW hb.lt).cell 1 _ rfl
  have hf := fun W (hW : Held (Below W0.heap.size W0) W) => (hb.below hW hb.lt).frozen 1
  have hc := fun W (hW : Held (Below W0.heap.size W0) W) => (hs.below hW hs.lt).cell 2 _ rfl
  have HB := Lib.hid hb
  have HK := Lib.hid hk
  have HS := Lib.hid hs
  have HT := Lib.hid hT
  have HW := Lib.hid hW0
  clear h hb hk hs hT hW0 hl
  go_enter Tryd.func29, Tryd.ntmps29
  go_wp2_with fail
  rw [HW.out]
  clear HW
  have g1 := hg W0.drew (Below.refl _ W0).drew
  have f1 := hf W0.drew (Below.refl _ W0).drew
  have hF : ∀ f, Fence.wide.fn f := fun _ => trivial
  refine (wpIn_wide (n := 3)).1 ?_
  refine wpIn_region_auto (Below W0.heap.size W0) ((0, none, none) :: (0, none, none) :: (0, none, none) :: (0, none, none) :: (0, none, none) :: (0, none, none) :: (0, none, none) :: (0, none, none) :: (0, none, none) :: (0, none, none) :: (0, none, none) :: (0, none, some false) :: []) hF (by kernel_rfl) (by kernel_rfl) (fun _ _ d _ _ h => by cases d <;> exact h) ((Below.refl _ W0).drew) ?_
  repeat' (first
    | (with_reducible apply relI_pass
       focus (intro W hW; first | (go_simp; exact rfl) | go_simp)
       simp only [Act.put, List.setIfInBounds_toArray, List.set_cons_zero, List.set_cons_succ])
    | (with_reducible apply relI_yes
       focus (exact rfl))
    | (with_reducible apply relI_no
       focus (exact rfl)
       simp only [Act.put, List.setIfInBounds_toArray, List.set_cons_zero, List.set_cons_succ])
    | (with_reducible apply relI_askF
       focus (exact rfl)
       all_goals (intro hb; simp only [hb, Act.put, List.setIfInBounds_toArray, List.set_cons_zero, List.set_cons_succ]))
    | (with_reducible apply relI_askT
       focus (exact rfl)
       all_goals (intro hb; simp only [hb, Act.put, List.setIfInBounds_toArray, List.set_cons_zero, List.set_cons_succ]))
    | (with_reducible apply relI_front1)
    | (with_reducible apply relI_front2)
    | (with_reducible apply relI_front3)
    | (with_reducible apply relI_front4)
    | (with_reducible apply relI_front5)
    | (with_reducible apply relI_front6))
  apply relI_act hF rfl
  intro K hK
  go_simp
  refine hK _ _ ⟨fun h => (by cases h), ?_⟩
  clear hK K
  try simp only [Act.put, List.setIfInBounds_toArray, List.set_cons_zero, List.set_cons_succ]
  apply relI_nil
  simp only [Exit.then, Exit.inBlock]
  rw [IntWalk.i64_left]
  have hB2 : Blk ((W0.setCell ⟨g, 1, none⟩ (.int .i64 (wrap64 (b.lien + cents)))).drew) g 55 (b.cells.set 1 (.int .i64 (wrap64 (b.lien + cents)))) := (HB.out.set 1 _).drew
  have hK2 : KeepsBut (fun k => k = g) w ((W0.setCell ⟨g, 1, none⟩ (.int .i64 (wrap64 (b.lien + cents)))).drew) := (HK.out.trans (KeepsBut.set _ _ _ _ rfl)).trans (KeepsBut.drew _)
  generalize (W0.setCell ⟨g, 1, none⟩ (.int .i64 (wrap64 (b.lien + cents)))).drew = W2 at hB2 hK2 ⊢
  have d0 := hB2.cell 1 _ rfl
  have d4 := hB2.cell 4 _ rfl
  have C := valid_calls (wrap64 (b.lien + cents)) W2 (HT.out _ hK2)
  have HB2 := Lib.hid hB2
  clear hB2 d4
  go_wp2_with fail
  refine C.mono ?_
  rintro e W3 ⟨rfl, hb3⟩
  go_wp2_with fail
  go_ret
  exact ⟨by simp [takeV], (HB2.out).below hb3 HB2.out.lt, hK2.trans (.of_below hb3)⟩
set_option maxHeartbeats 1000000 in
theorem take_five (b : Bk) (day cents : Int) (g : Nat) (w : World) (h : BookAt w g b) (hT : ∀ W, KeepsBut (fun k => k = g) w W → TabOk W) :
    Calls Tryd.prog 29 #[.pointer (some ⟨g, 0, none⟩), .agg #[.int .i64 5, .int .i64 day, .int .i64 cents]] w (TakePost w g b 5 cents) := by
  obtain ⟨W0, hW0⟩ : ∃ W, w.alloc (Obj.cells #[Value.int IntKind.i64 5, Value.int IntKind.i64 day, Value.int IntKind.i64 cents] 36) = W := ⟨_, rfl⟩
  have hb : Blk W0 g 55 b.cells := by rw [← hW0]; exact Blk.alloc h _
  have hs : Blk W0 w.heap.size 36 [.int .i64 5, .int .i64 day, .int .i64 cents] := by rw [← hW0]; exact Blk.new w _ _
  have hk : KeepsBut (fun k => k = g) w W0 := by rw [← hW0]; exact KeepsBut.alloc _ _
  have hl := h.lt
  have hg := fun W (hW : Held (Below W0.heap.size W0) W) => (hb.below hW hb.lt).cell 1 _ rfl
  have hf := fun W (hW : Held (Below W0.heap.size W0) W) => (hb.below hW hb.lt).frozen 1
  have hc := fun W (hW : Held (Below W0.heap.size W0) W) => (hs.below hW hs.lt).cell 2 _ rfl
  have HB := Lib.hid hb
  have HK := Lib.hid hk
  have HS := Lib.hid hs
  have HT := Lib.hid hT
  have HW := Lib.hid hW0
  clear h hb hk hs hT hW0 hl
  go_enter Tryd.func29, Tryd.ntmps29
  go_wp2_with fail
  rw [HW.out]
  clear HW
  have g1 := hg W0.drew (Below.refl _ W0).drew
  have f1 := hf W0.drew (Below.refl _ W0).drew
  have hF : ∀ f, Fence.wide.fn f := fun _ => trivial
  refine (wpIn_wide (n := 3)).1 ?_
  refine wpIn_region_auto (Below W0.heap.size W0) ((0, none, none) :: (0, none, none) :: (0, none, none) :: (0, none, none) :: (0, none, none) :: (0, none, none) :: (0, none, none) :: (0, none, none) :: (0, none, none) :: (0, none, none) :: (0, none, none) :: (0, none, some false) :: []) hF (by kernel_rfl) (by kernel_rfl) (fun _ _ d _ _ h => by cases d <;> exact h) ((Below.refl _ W0).drew) ?_
  repeat' (first
    | (with_reducible apply relI_pass
       focus (intro W hW; first | (go_simp; exact rfl) | go_simp)
       simp only [Act.put, List.setIfInBounds_toArray, List.set_cons_zero, List.set_cons_succ])
    | (with_reducible apply relI_yes
       focus (exact rfl))
    | (with_reducible apply relI_no
       focus (exact rfl)
       simp only [Act.put, List.setIfInBounds_toArray, List.set_cons_zero, List.set_cons_succ])
    | (with_reducible apply relI_askF
       focus (exact rfl)
       all_goals (intro hb; simp only [hb, Act.put, List.setIfInBounds_toArray, List.set_cons_zero, List.set_cons_succ]))
    | (with_reducible apply relI_askT
       focus (exact rfl)
       all_goals (intro hb; simp only [hb, Act.put, List.setIfInBounds_toArray, List.set_cons_zero, List.set_cons_succ]))
    | (with_reducible apply relI_front1)
    | (with_reducible apply relI_front2)
    | (with_reducible apply relI_front3)
    | (with_reducible apply relI_front4)
    | (with_reducible apply relI_front5)
    | (with_reducible apply relI_front6))
  apply relI_act hF rfl
  intro K hK
  go_simp
  refine hK _ _ ⟨fun h => (by cases h), ?_⟩
  clear hK K
  try simp only [Act.put, List.setIfInBounds_toArray, List.set_cons_zero, List.set_cons_succ]
  apply relI_nil
  simp only [Exit.then, Exit.inBlock]
  rw [IntWalk.i64_left]
  have hB2 : Blk ((W0.setCell ⟨g, 1, none⟩ (.int .i64 (wrap64 (b.lien - cents)))).drew) g 55 (b.cells.set 1 (.int .i64 (wrap64 (b.lien - cents)))) := (HB.out.set 1 _).drew
  have hK2 : KeepsBut (fun k => k = g) w ((W0.setCell ⟨g, 1, none⟩ (.int .i64 (wrap64 (b.lien - cents)))).drew) := (HK.out.trans (KeepsBut.set _ _ _ _ rfl)).trans (KeepsBut.drew _)
  generalize (W0.setCell ⟨g, 1, none⟩ (.int .i64 (wrap64 (b.lien - cents)))).drew = W2 at hB2 hK2 ⊢
  have d0 := hB2.cell 1 _ rfl
  have d4 := hB2.cell 4 _ rfl
  have HB2 := Lib.hid hB2
  clear hB2 d4
  go_wp2_with fail
  go_ret
  exact ⟨by simp [takeV], HB2.out, hK2⟩
theorem take_else (b : Bk) (kind day cents : Int) (g : Nat) (w : World) (h : BookAt w g b) (h1 : kind ≠ 1) (h2 : kind ≠ 2) (h3 : kind ≠ 3) (h4 : kind ≠ 4) (h5 : kind ≠ 5) (h6 : kind ≠ 6) :
    Calls Tryd.prog 29 #[.pointer (some ⟨g, 0, none⟩), .agg #[.int .i64 kind, .int .i64 day, .int .i64 cents]] w (TakePost w g b kind cents) := by
  have e1 : (kind == 1) = false := by simp [h1]
  have e2 : (kind == 2) = false := by simp [h2]
  have e3 : (kind == 3) = false := by simp [h3]
  have e4 : (kind == 4) = false := by simp [h4]
  have e5 : (kind == 5) = false := by simp [h5]
  have e6 : (kind == 6) = false := by simp [h6]
  have HB := Lib.hid h
  have hV : Hid (takeV b kind cents = (b, true)) := by unfold Hid takeV; simp [h1, h2, h3, h4, h5, h6]
  clear h h1 h2 h3 h4 h5 h6
  go_enter Tryd.func29, Tryd.ntmps29
  go_wp2_with fail
  go_ret
  exact ⟨by rw [hV.out]; rfl, by rw [hV.out]; exact HB.out.alloc _, KeepsBut.alloc _ _⟩
theorem take_calls (b : Bk) (kind day cents : Int) (g : Nat) (w : World) (h : BookAt w g b) (hT : ∀ W, KeepsBut (fun k => k = g) w W → TabOk W) :
    Calls Tryd.prog 29 #[.pointer (some ⟨g, 0, none⟩), .agg #[.int .i64 kind, .int .i64 day, .int .i64 cents]] w (TakePost w g b kind cents) := by
  by_cases h1 : kind = 1
  · subst h1; exact take_one b day cents g w h hT
  by_cases h2 : kind = 2
  · subst h2; exact take_two b day cents g w h
  by_cases h3 : kind = 3
  · subst h3; exact take_three b day cents g w h
  by_cases h4 : kind = 4
  · subst h4; exact take_four b day cents g w h hT
  by_cases h5 : kind = 5
  · subst h5; exact take_five b day cents g w h hT
  by_cases h6 : kind = 6
  · subst h6; exact take_six b day cents g w h
  exact take_else b kind day cents g w h h1 h2 h3 h4 h5 h6
end Go.Proofs.YtdhnojfpgpjabaaDoor.P
