/- The statement 'for x := range seq { body }' over an iterator that keeps variables of its own (it writes blocks that it has laid itself between two rounds). -/
import Derived.Test.YtdhnojfpgpjabaaDoorProg
import Derived.RangeFuncNested
import Derived.RangeFuncCalls
import Derived.RangeFuncLeaves
set_option linter.unusedSimpArgs false
set_option linter.unusedVariables false
namespace Go.Proofs.YtdhnojfpgpjabaaDoor.P
open Go Go.RowKit

/-- Of what lay, all but the blocks of T lies as it lay. -/
structure KeepsBut (T : Nat → Prop) (W W' : World) : Prop where
  os : W'.os = W.os
  tape : W'.tape = W.tape
  output : W'.output = W.output
  size : W.heap.size ≤ W'.heap.size
  block : ∀ k, k < W.heap.size → ¬ T k → W'.heap[k]? = W.heap[k]?
theorem KeepsBut.refl (T : Nat → Prop) (W : World) : KeepsBut T W W := ⟨rfl, rfl, rfl, Nat.le_refl _, fun _ _ _ => rfl⟩
theorem KeepsBut.trans {T : Nat → Prop} {X Y Z : World} (h : KeepsBut T X Y) (k : KeepsBut T Y Z) : KeepsBut T X Z :=
  ⟨k.os.trans h.os, k.tape.trans h.tape, k.output.trans h.output, Nat.le_trans h.size k.size, fun i hi ht => (k.block i (Nat.lt_of_lt_of_le hi h.size) ht).trans (h.block i hi ht)⟩
theorem KeepsBut.imp {T U : Nat → Prop} {W W' : World} (h : KeepsBut T W W') (hTU : ∀ k, T k → U k) : KeepsBut U W W' := ⟨h.os, h.tape, h.output, h.size, fun k hk hu => h.block k hk (fun ht => hu (hTU k ht))⟩
theorem KeepsBut.putObj {T : Nat → Prop} (W : World) (l : Nat) (o : Obj) (h : T l) : KeepsBut T W (W.putObj l o) := by
  refine ⟨rfl, rfl, rfl, by simp, fun k _ ht => World.putObj_heap_other (fun e => ht (e ▸ h))⟩
theorem KeepsBut.below {T : Nat → Prop} {n : Nat} {W W' : World} (h : KeepsBut T W W') (hn : n ≤ W.heap.size) (hT : ∀ k, k < n → ¬ T k) : Below n W W' := ⟨h.os, h.tape, h.output, h.size, fun k hk => h.block k (by omega) (hT k hk)⟩
theorem KeepsBut.of_below {T : Nat → Prop} {W W' : World} (h : Below W.heap.size W W') : KeepsBut T W W' := ⟨h.os, h.tape, h.output, h.size, fun k hk _ => h.block k hk⟩
theorem below_putObj {n l : Nat} (W : World) (o : Obj) (h : n ≤ l) : Below n W (W.putObj l o) := ⟨rfl, rfl, rfl, by simp, fun k hk => World.putObj_heap_other (by omega)⟩

/-- An iterator's contract: its rounds may turn the record and the blocks of T; what hangs on the blocks that lay when it was called, it keeps. -/
def SeqOwn {α : Type} (F : Fence) (n m : Nat) (P : Program) (g : Nat) (lb : Array Value) (encs : α → Array Value) (T : Nat → Prop) (S Sp : List α → Prop) (w : World) : Prop :=
  ∀ (l : Nat) (J Jx : List α → World → Prop) (W : World), Below w.heap.size w W → w.heap.size ≤ l → l < W.heap.size →
    (∀ s A B, J s A → Below W.heap.size A B → J s B) → (∀ s A B, Jx s A → Below W.heap.size A B → Jx s B) →
    (∀ pre x W1, J pre W1 → Sp (pre ++ [x]) → YieldAt F m P l (encs x) W1 fun e W' =>
      (e = .returned (.bool true) ∧ J (pre ++ [x]) W' ∧ KeepsBut (fun k => k = l ∨ T k) W1 W') ∨ (e = .returned (.bool false) ∧ Jx (pre ++ [x]) W')) →
    J [] W →
    CallsIn F n P g (#[.func (.yield l) #[] #[]] ++ lb) W fun e W' => (∃ v, e = .returned v) ∧ ((∃ xs, S xs ∧ J xs W') ∨ (∃ pre, Sp pre ∧ Jx pre W'))

/-- How a round's body may end. -/
def RoundEnds {α : Type} (T : Nat → Prop) (I : List α → World → Prop) (Ix : Code → List α → World → Prop) (xs : List α) (W : World) : Exit → Act → World → Prop
  | .normal, _, W' => KeepsBut T W W' ∧ I xs W'
  | .ret, _, W' => KeepsBut T W W' ∧ Ix .ret xs W'
  | .exit id, _, W' => KeepsBut T W W' ∧ Ix (.exit id) xs W'
  | .goto t, _, W' => KeepsBut T W W' ∧ Ix (.goto t) xs W'
  | .panic _, _, _ => False
  | .outgrown, _, _ => False

section
variable {α : Type} {F : Fence} {n m : Nat} {P : Program}
/-- The record of the loop and the block for its rounds' deferred calls. -/
structure Book (fn : FuncId) (tmps : Array Value) (ps : Array Tmp) (assign body : Code) (D : Nat) (st : LoopState) (pe : Option Code) (W : World) : Prop where
  loop : W.heap[D + 1]? = some (.loop { state := st, pending := pe, fn, tmps, params := ps, assign, body, defers := D })
  defs : W.heap[D]? = some (.deferred (some []))
theorem Book.lt {fn : FuncId} {tmps : Array Value} {ps : Array Tmp} {assign body : Code} {D : Nat} {st : LoopState} {pe : Option Code} {W : World} (h : Book fn tmps ps assign body D st pe W) : D + 1 < W.heap.size := (Array.getElem?_eq_some_iff.1 h.loop).1
theorem Book.keep {fn : FuncId} {tmps : Array Value} {ps : Array Tmp} {assign body : Code} {D : Nat} {st : LoopState} {pe : Option Code} {W W' : World} {T : Nat → Prop} (h : Book fn tmps ps assign body D st pe W) (hT : ∀ k, T k → k < D) (hk : KeepsBut T W W') : Book fn tmps ps assign body D st pe W' :=
  ⟨(hk.block _ h.lt (fun t => by have := hT _ t; omega)).trans h.loop, (hk.block _ (by have := h.lt; omega) (fun t => by have := hT _ t; omega)).trans h.defs⟩
theorem Book.below {fn : FuncId} {tmps : Array Value} {ps : Array Tmp} {assign body : Code} {D B : Nat} {st : LoopState} {pe : Option Code} {W W' : World} (h : Book fn tmps ps assign body D st pe W) (hB : D + 1 < B) (hb : Below B W W') : Book fn tmps ps assign body D st pe W' :=
  ⟨(hb.block _ hB).trans h.loop, (hb.block _ (by omega)).trans h.defs⟩
theorem Book.turn {fn : FuncId} {tmps : Array Value} {ps : Array Tmp} {assign body : Code} {D : Nat} {st : LoopState} {pe : Option Code} {W : World} (h : Book fn tmps ps assign body D st pe W) (st' : LoopState) (pe' : Option Code) :
    Book fn tmps ps assign body D st' pe' (W.putObj (D + 1) (.loop { state := st', pending := pe', fn, tmps, params := ps, assign, body, defers := D })) :=
  ⟨World.putObj_heap_same h.lt, (World.putObj_heap_other (by omega)).trans h.defs⟩

theorem wpIn_rangeFunc_rf {g : Operand} {ps : Array Tmp} {assign body : Code} {Q : Exit → Act → World → Prop} {a : Act} {w : World}
    (hro : F.round = none) (h1 : 1 ≤ n) {gf : Nat} {lb : Array Value} (hg : a.eval g = .func (.func gf) #[] lb) (hFg : F.fn gf) (eg : ∀ args w, (callFunc gf args).run P w = .ok (.enter gf args) w)
    {encs : α → Array Value} {T : Nat → Prop} {S Sp : List α → Prop} (hseq : SeqOwn F (n - 1) m P gf lb encs T S Sp w) (hT : ∀ k, T k → k < w.heap.size) (hps : ∀ x, (encs x).size = ps.size)
    (I : List α → World → Prop) (Ix : Code → List α → World → Prop) (hI : ∀ s A B, I s A → Below w.heap.size A B → I s B) (hIx : ∀ c s A B, Ix c s A → Below w.heap.size A B → Ix c s B) (h0 : I [] w)
    (Ax : α → Act → World → Prop) (hAx : ∀ x a' A o, Ax x a' A → Ax x a' (A.putObj (w.heap.size + 1) o))
    (hassign : ∀ (l : Nat) (pre : List α) (x : α) (W : World) (K : Act → World → Prop), w.heap.size + 1 < W.heap.size → I pre W → Sp (pre ++ [x]) → (∀ a' W', KeepsBut T W W' → I pre W' → Ax x a' W' → K a' W') →
      assign.wpIn (F.inRound l) m P (Exit.then K (fun _ _ _ => False)) { tmps := (ps.zip (encs x)).foldl (fun t (p, v) => t.setIfInBounds p v) a.tmps, defers := [] } W)
    (hbody : ∀ (l : Nat) (pre : List α) (x : α) (a' : Act) (W : World), w.heap.size + 1 < W.heap.size → I pre W → Sp (pre ++ [x]) → Ax x a' W → body.wpIn (F.inRound l) m P (RoundEnds T I Ix (pre ++ [x]) W) a' W)
    (hdone : ∀ (xs : List α) (W : World), S xs → I xs W → W.heap[w.heap.size]? = some (.deferred (some [])) → Q .normal { a with defers := { target := .collected w.heap.size, args := #[] } :: a.defers } W)
    (hstop : ∀ (c : Code) (pre : List α) (W : World), Sp pre → Ix c pre W → W.heap[w.heap.size]? = some (.deferred (some [])) → c.wpIn F n P Q { a with defers := { target := .collected w.heap.size, args := #[] } :: a.defers } W) :
    (Code.rangeFunc g ps assign body).wpIn F n P Q a w := by
  refine wpIn_rangeFunc fun fn hfn => ?_
  rw [hro]
  have hB : Book fn a.tmps ps assign body w.heap.size .ready none ((w.alloc (.deferred (some []))).alloc (.loop { state := .ready, pending := none, fn, tmps := a.tmps, params := ps, assign, body, defers := w.heap.size })) := by
    constructor
    · have := World.alloc_heap_new (w.alloc (.deferred (some []))) (.loop { state := .ready, pending := none, fn, tmps := a.tmps, params := ps, assign, body, defers := w.heap.size })
      rwa [World.size_alloc] at this
    · exact (Below.heap_alloc _ _ _ (by simp)).trans (World.alloc_heap_new w _)
  have hb : Below w.heap.size w ((w.alloc (.deferred (some []))).alloc (.loop { state := .ready, pending := none, fn, tmps := a.tmps, params := ps, assign, body, defers := w.heap.size })) :=
    ((Below.refl _ w).alloc (Nat.le_refl _) _).alloc (by simp) _
  have he := run_enterLoop_outer (P := P) (w := w) fn a.tmps ps assign body
  generalize (w.alloc (.deferred (some []))).alloc (.loop { state := .ready, pending := none, fn, tmps := a.tmps, params := ps, assign, body, defers := w.heap.size }) = W1 at hB hb he
  refine ⟨w.heap.size + 1, _, W1, { target := .fn (.func gf) lb, args := #[.func (.yield (w.heap.size + 1)) #[] #[]] }, W1, gf, #[.func (.yield (w.heap.size + 1)) #[] #[]] ++ lb, W1, he, ?_, ?_, ?_, fun _ => h1, ?_⟩
  · simp only [resolve, hg]
    simp [go_sem]
  · intro f' hf'
    simp [Target.leads] at hf'
    subst hf'
    exact hFg
  · simp [invoke, go_sem, eg]
  · have hs1 := hB.lt
    refine (hseq (w.heap.size + 1) (fun pre W => I pre W ∧ Book fn a.tmps ps assign body w.heap.size .ready none W) (fun pre W => ∃ c, Ix c pre W ∧ Book fn a.tmps ps assign body w.heap.size .done (some c) W) W1 hb (by omega) hs1
      (fun s A B h hAB => ⟨hI s A B h.1 ⟨hAB.os, hAB.tape, hAB.output, hAB.size, fun k hk => hAB.block k (by omega)⟩, h.2.below hs1 hAB⟩)
      (fun s A B ⟨c, h, h2⟩ hAB => ⟨c, hIx c s A B h ⟨hAB.os, hAB.tape, hAB.output, hAB.size, fun k hk => hAB.block k (by omega)⟩, h2.below hs1 hAB⟩)
      ?_ ⟨hI _ _ _ h0 hb, hB⟩).mono ?_
    · rintro pre x W ⟨hi, hbk⟩ hsp
      have hy := run_yield (P := P) (args := encs x) hbk.loop (hps x)
      refine ⟨fn, _, assign, body, hy, roundIn_of_wpIn hfn (hassign _ pre x W _ hbk.lt hi hsp ?_)⟩
      clear hy
      intro a' Wa hka hia hax
      have hba := hbk.keep hT hka
      have hb2 := hba.turn .busy none
      refine ⟨_, run_beginRound hba.loop rfl, ?_⟩
      have ht1 : KeepsBut (fun k => k = w.heap.size + 1 ∨ T k) W Wa := hka.imp (fun k h => .inr h)
      have ht2 : KeepsBut (fun k => k = w.heap.size + 1 ∨ T k) Wa (Wa.putObj (w.heap.size + 1) (.loop { state := .busy, pending := none, fn, tmps := a.tmps, params := ps, assign, body, defers := w.heap.size })) := KeepsBut.putObj _ _ _ (.inl rfl)
      refine wpIn_mono (hbody _ pre x a' _ hb2.lt (hI _ _ _ hia (below_putObj _ _ (by omega))) hsp (hAx x a' _ _ hax)) ?_
      intro e a3 W3 hp
      have fin : ∀ (jump : Option Code), KeepsBut T (Wa.putObj (w.heap.size + 1) (.loop { state := .busy, pending := none, fn, tmps := a.tmps, params := ps, assign, body, defers := w.heap.size })) W3 →
          (Instr.endRound (w.heap.size + 1) jump).run P W3 = .ok (.bool jump.isNone) (W3.putObj (w.heap.size + 1) (.loop { state := if jump.isNone then .ready else .done, pending := jump, fn, tmps := a.tmps, params := ps, assign, body, defers := w.heap.size })) ∧
          Book fn a.tmps ps assign body w.heap.size (if jump.isNone then .ready else .done) jump (W3.putObj (w.heap.size + 1) (.loop { state := if jump.isNone then .ready else .done, pending := jump, fn, tmps := a.tmps, params := ps, assign, body, defers := w.heap.size })) ∧
          KeepsBut (fun k => k = w.heap.size + 1 ∨ T k) W (W3.putObj (w.heap.size + 1) (.loop { state := if jump.isNone then .ready else .done, pending := jump, fn, tmps := a.tmps, params := ps, assign, body, defers := w.heap.size })) := fun jump hk3 => by
        have hb3 := hb2.keep hT hk3
        exact ⟨run_endRound jump hb3.loop, hb3.turn _ _, ((ht1.trans ht2).trans (hk3.imp (fun k h => .inr h))).trans (KeepsBut.putObj _ _ _ (.inl rfl))⟩
      cases e with
      | normal =>
        obtain ⟨hk3, hi3⟩ := hp
        obtain ⟨hr, hbk3, hkk⟩ := fin none hk3
        exact ⟨_, _, hr, .inl ⟨rfl, ⟨hI _ _ _ hi3 (below_putObj _ _ (by omega)), hbk3⟩, hkk⟩⟩
      | ret =>
        obtain ⟨hk3, hi3⟩ := hp
        obtain ⟨hr, hbk3, hkk⟩ := fin (some .ret) hk3
        exact ⟨_, _, hr, .inr ⟨rfl, .ret, hIx _ _ _ _ hi3 (below_putObj _ _ (by omega)), hbk3⟩⟩
      | exit id =>
        obtain ⟨hk3, hi3⟩ := hp
        obtain ⟨hr, hbk3, hkk⟩ := fin (some (.exit id)) hk3
        exact ⟨_, _, hr, .inr ⟨rfl, .exit id, hIx _ _ _ _ hi3 (below_putObj _ _ (by omega)), hbk3⟩⟩
      | goto t =>
        obtain ⟨hk3, hi3⟩ := hp
        obtain ⟨hr, hbk3, hkk⟩ := fin (some (.goto t)) hk3
        exact ⟨_, _, hr, .inr ⟨rfl, .goto t, hIx _ _ _ _ hi3 (below_putObj _ _ (by omega)), hbk3⟩⟩
      | panic ch => exact hp.elim
      | outgrown => exact hp.elim
    · rintro e W2 ⟨⟨v, rfl⟩, (⟨xs, hS, hi, hbk⟩ | ⟨pre, hSp, c, hi, hbk⟩)⟩
      · exact ⟨none, _, run_endLoop hbk.loop (by simp), hdone xs _ hS (hI _ _ _ hi (below_putObj _ _ (by omega))) ((World.putObj_heap_other (by omega)).trans hbk.defs)⟩
      · exact ⟨some c, _, run_endLoop hbk.loop (by simp), hstop c pre _ hSp (hIx _ _ _ _ hi (below_putObj _ _ (by omega))) ((World.putObj_heap_other (by omega)).trans hbk.defs)⟩
end
/-- A variable of several cells. -/
def Blk (W : World) (B : Nat) (t : TypeId) (vs : List Value) : Prop := W.heap[B]? = some (.cells vs.toArray t (0, 0))
theorem Blk.lt {W : World} {B : Nat} {t : TypeId} {vs : List Value} (h : Blk W B t vs) : B < W.heap.size := (Array.getElem?_eq_some_iff.1 h).1
theorem Blk.cell {W : World} {B : Nat} {t : TypeId} {vs : List Value} (h : Blk W B t vs) (i : Nat) (v : Value) (hi : vs[i]? = some v) : W.cell? ⟨B, i, none⟩ = some v := by
  simp [World.cell?, show W.heap[B]? = _ from h, hi]
theorem Blk.frozen {W : World} {B : Nat} {t : TypeId} {vs : List Value} (h : Blk W B t vs) (i : Nat) : W.frozen? ⟨B, i, none⟩ = false := by simp [World.frozen?, show W.heap[B]? = _ from h]
theorem Blk.new (W : World) (t : TypeId) (vs : List Value) : Blk (W.alloc (.cells vs.toArray t)) W.heap.size t vs := World.alloc_heap_new W _
theorem Blk.alloc {W : World} {B : Nat} {t : TypeId} {vs : List Value} (h : Blk W B t vs) (o : Obj) : Blk (W.alloc o) B t vs := ((World.grownBy_alloc W o none).block B h.lt (by simp)).trans h
theorem Blk.set {W : World} {B : Nat} {t : TypeId} {vs : List Value} (h : Blk W B t vs) (i : Nat) (v : Value) : Blk (W.setCell ⟨B, i, none⟩ v) B t (vs.set i v) := by
  obtain ⟨hlt, hk⟩ := Array.getElem?_eq_some_iff.1 h
  show (W.heap.modify B _)[B]? = _
  rw [Array.getElem?_eq_getElem (by rw [Array.size_modify]; exact hlt), Array.getElem_modify_self, hk]
  simp
theorem Blk.other {W : World} {B B' : Nat} {t : TypeId} {vs : List Value} (h : Blk W B t vs) (hne : B ≠ B') (i : Nat) (v : Value) : Blk (W.setCell ⟨B', i, none⟩ v) B t vs :=
  (Below.heap_setCell W ⟨B', i, none⟩ v B hne).trans h
theorem Blk.below {W W' : World} {B n : Nat} {t : TypeId} {vs : List Value} (h : Blk W B t vs) (hb : Below n W W') (hn : B < n) : Blk W' B t vs := (hb.block B hn).trans h
theorem Blk.but {W W' : World} {B : Nat} {T : Nat → Prop} {t : TypeId} {vs : List Value} (h : Blk W B t vs) (hb : KeepsBut T W W') (hn : ¬ T B) : Blk W' B t vs := (hb.block B h.lt hn).trans h
theorem Blk.drew {W : World} {B : Nat} {t : TypeId} {vs : List Value} (h : Blk W B t vs) : Blk W.drew B t vs := h
theorem KeepsBut.set {T : Nat → Prop} (W : World) (B i : Nat) (v : Value) (h : T B) : KeepsBut T W (W.setCell ⟨B, i, none⟩ v) :=
  ⟨rfl, rfl, rfl, (KeepsWalks.setCell W _ v).size, fun k _ ht => Below.heap_setCell W ⟨B, i, none⟩ v k (fun e => ht (by rw [e]; exact h))⟩
theorem KeepsBut.alloc {T : Nat → Prop} (W : World) (o : Obj) : KeepsBut T W (W.alloc o) := .of_below ((Below.refl _ W).alloc (Nat.le_refl _) o)
theorem KeepsBut.drew {T : Nat → Prop} (W : World) : KeepsBut T W W.drew := .of_below (Below.drew (Below.refl _ W))
end Go.Proofs.YtdhnojfpgpjabaaDoor.P
