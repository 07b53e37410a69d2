/- A region that draws its order, walked once, in one order that is fixed beforehand. -/
import Derived.OrdersHeld
import Derived.RowKit
namespace Go.Proofs.YtcnkenknbmmglaaDoor.Ord
open Go

section
variable {P : Program} {ops : Array Oper} {Q : Exit → Act → World → Prop} {md : Region.Mode} {S : World → Prop} {N : List Nat}

/-- Operation j does not wait (by an edge of its own) for each operation of N: S is to be shown behind it. -/
def needS (md : Region.Mode) (ops : Array Oper) (N : List Nat) (j : Nat) : Bool :=
  N.any fun i => i != j && !((ops[j]?).map fun o => o.after.any fun e => Region.binds md e && e.on == i).getD true

theorem needS_of {i j : Nat} {listed : Array Bool} (hN : i ∈ N) (hij : i ≠ j) (hj : j ∈ Region.ready md ops listed) (hl : listed.getD i true = false) : needS md ops N j = true := by
  obtain ⟨_, oj, hoj, hall⟩ := mem_ready.1 hj
  unfold needS
  rw [List.any_eq_true]
  refine ⟨i, hN, ?_⟩
  simp only [hoj, Option.map_some, Option.getD_some, Bool.and_eq_true, bne_iff_ne, ne_eq, hij, not_false_eq_true, true_and, Bool.not_eq_true']
  rw [← Bool.not_eq_true]
  intro h
  obtain ⟨e, he, h1⟩ := Array.any_eq_true'.1 h
  simp only [Bool.and_eq_true, beq_iff_eq] at h1
  have h2 := hall e he h1.1
  rw [h1.2] at h2
  rcases Nat.lt_or_ge i listed.size with h' | h'
  · simp [h'] at hl h2
    rw [hl] at h2
    cases h2
  · simp [Array.getElem?_eq_none h'] at h2

/-- Whatever order is picked from here on; behind an operation that does not wait for all of N, S holds. -/
def wpAnyN (P : Program) (md : Region.Mode) (ops : Array Oper) (Q : Exit → Act → World → Prop) (S : World → Prop) (N : List Nat) : Nat → Array Bool → Act → World → Prop
  | 0, listed, a, w => Region.ready md ops listed = [] ∧ Q .normal a w
  | fuel + 1, listed, a, w =>
    (Region.ready md ops listed = [] → Q .normal a w) ∧
    ∀ i ∈ Region.ready md ops listed, wpOp P ops Q i (fun a' w' => (needS md ops N i = true → S w') ∧ wpAnyN P md ops Q S N fuel (listed.setIfInBounds i true) a' w') a w

theorem wpAny_of_N : ∀ (fuel : Nat) (listed : Array Bool) (a : Act) (w : World), wpAnyN P md ops Q S N fuel listed a w → wpAny P md ops Q fuel listed a w
  | 0, _, _, _, h => h
  | fuel + 1, _, _, _, h => ⟨h.1, fun i hi => wpOp_mono (fun a' w' h' => wpAny_of_N fuel _ a' w' h'.2) (h.2 i hi)⟩

theorem wpAnyN_first {i : Nat} {oi : Oper} {v : Value} (hi : ops[i]? = some oi) (hN : i ∈ N) (hsel : ∀ (j : Nat) (o : Oper) cs b, ops[j]? = some o → o.op ≠ .select cs b)
    (hQ : ∀ c a w, Q (.panic c) (a.put oi.dst v) w → Q (.panic c) a w) :
    ∀ (fuel : Nat) (listed : Array Bool) (a : Act) (w : World),
      (∀ j oj, ops[j]? = some oj → j ≠ i → listed.getD j true = false → (∀ e ∈ oj.after, Region.binds md e = true → e.on ≠ i) → oi.apart ops oj = true) →
      i ∈ Region.ready md ops listed → YieldsIf P ops S oi v a → S w →
      wpAnyN P md ops Q S N fuel (listed.setIfInBounds i true) (a.put oi.dst v) w → wpAnyN P md ops Q S N (fuel + 1) listed a w := by
  intro fuel
  induction fuel with
  | zero =>
    intro listed a w _ hr hy hS H
    refine ⟨fun h => (by rw [h] at hr; cases hr), fun j hj => ?_⟩
    by_cases hji : j = i
    · subst hji
      exact hy.wpOp hi hS ⟨fun _ => hS, H⟩
    · have := ready_mono hj hji
      rw [H.1] at this
      cases this
  | succ fuel ih =>
    intro listed a w hfree hr hy hS H
    refine ⟨fun h => (by rw [h] at hr; cases hr), fun j hj => ?_⟩
    by_cases hji : j = i
    · subst hji
      exact hy.wpOp hi hS ⟨fun _ => hS, H⟩
    · have h1 := H.2 j (ready_mono hj hji)
      obtain ⟨hjun, oj, hoj, hall⟩ := mem_ready.1 hj
      have hun := (mem_ready.1 hr).1
      have hnot : ∀ e ∈ oj.after, Region.binds md e = true → e.on ≠ i := fun e he hb heq => by
        have h1 := hall e he hb
        rw [heq] at h1
        rcases Nat.lt_or_ge i listed.size with h' | h'
        · simp [h'] at hun h1
          rw [hun] at h1
          cases h1
        · simp [Array.getElem?_eq_none h'] at h1
      have hneed : needS md ops N j = true := needS_of hN (Ne.symm hji) hj hun
      have h2 := wpOp_putIf hoj (hfree j oj hoj hji hjun hnot) (fun cs b => hsel i oi cs b hi) (fun cs b => hsel j oj cs b hoj) hQ hy h1
      have hfree' : ∀ k ok, ops[k]? = some ok → k ≠ i → (listed.setIfInBounds j true).getD k true = false →
          (∀ e ∈ ok.after, Region.binds md e = true → e.on ≠ i) → oi.apart ops ok = true := fun k ok hk hki hun hno => by
        refine hfree k ok hk hki ?_ hno
        by_cases hjk : j = k
        · subst hjk
          exact hjun
        · rw [getD_set_ne true hjk] at hun
          exact hun
      refine wpOp_mono (fun a' w' h3 => ⟨h3.2.1, ih (listed.setIfInBounds j true) a' w' hfree' (ready_mono hr (Ne.symm hji)) h3.1 (h3.2.1 hneed) ?_⟩) h2
      rw [Array.setIfInBounds_comm _ _ hji]
      exact h3.2.2

/-- Number i may come up: its edges are listed. -/
def upB (md : Region.Mode) (ops : Array Oper) (listed : Array Bool) (i : Nat) : Bool :=
  !listed.getD i true && ((ops[i]?).map (·.after.all fun e => !Region.binds md e || listed.getD e.on false)).getD false

theorem upB_ready {listed : Array Bool} {i : Nat} (h : upB md ops listed i = true) : i ∈ Region.ready md ops listed := by
  unfold Region.ready
  rw [List.mem_filter, List.mem_range]
  refine ⟨?_, h⟩
  rcases Nat.lt_or_ge i ops.size with h' | h'
  · exact h'
  · unfold upB at h
    rw [Array.getElem?_eq_none h'] at h
    simp at h

def edgeB (md : Region.Mode) (o : Oper) (i : Nat) : Bool := o.after.any fun e => Region.binds md e && e.on == i

/-- Two operations of which one writes what the other looks at, or writes: one has an edge to the other. -/
def tiedB (md : Region.Mode) (ops : Array Oper) : Bool :=
  (List.range ops.size).all fun i => match ops[i]? with
    | none => true
    | some oi => match oi.dst with
      | none => true
      | some d => (List.range ops.size).all fun j => j == i || match ops[j]? with
        | none => true
        | some oj => (!(oj.looksAt ops).contains d && oj.dst != some d) || edgeB md oj i || edgeB md oi j

theorem tied_free {listed : Array Bool} {i : Nat} {oi : Oper} (ht : tiedB md ops = true) (hi : ops[i]? = some oi) (hr : i ∈ Region.ready md ops listed) (j : Nat) (oj : Oper) (hj : ops[j]? = some oj) (hne : j ≠ i)
    (hun : listed.getD j true = false) (hno : ∀ e ∈ oj.after, Region.binds md e = true → e.on ≠ i) : oi.apart ops oj = true := by
  have key : ∀ x ox y oy, ops[x]? = some ox → ops[y]? = some oy → y ≠ x → edgeB md oy x = false → edgeB md ox y = false → ∀ d, ox.dst = some d → d ∉ oy.looksAt ops ∧ oy.dst ≠ some d := by
    intro x ox y oy hx hy hxy h1 h2 d hd
    have h3 := List.all_eq_true.1 ht x (List.mem_range.2 (Array.getElem?_eq_some_iff.1 hx).1)
    simp only [hx, hd] at h3
    have h4 := List.all_eq_true.1 h3 y (List.mem_range.2 (Array.getElem?_eq_some_iff.1 hy).1)
    simp only [hy, h1, h2, Bool.or_false, Bool.or_eq_true, beq_iff_eq, hxy, false_or, Bool.and_eq_true, Bool.not_eq_true', bne_iff_ne, ne_eq] at h4
    exact ⟨fun h5 => by have := h4.1; simp [h5] at this, h4.2⟩
  have e1 : edgeB md oj i = false := by
    rw [← Bool.not_eq_true]
    intro h
    obtain ⟨e, he, h1⟩ := Array.any_eq_true'.1 h
    simp only [Bool.and_eq_true, beq_iff_eq] at h1
    exact hno e he h1.1 h1.2
  have e2 : edgeB md oi j = false := by
    rw [← Bool.not_eq_true]
    intro h
    obtain ⟨e, he, h1⟩ := Array.any_eq_true'.1 h
    simp only [Bool.and_eq_true, beq_iff_eq] at h1
    obtain ⟨_, o, ho, hall⟩ := mem_ready.1 hr
    rw [hi] at ho
    injection ho with ho
    subst ho
    have h2 := hall e he h1.1
    rw [h1.2] at h2
    rcases Nat.lt_or_ge j listed.size with h' | h'
    · simp [h'] at hun h2
      rw [hun] at h2
      cases h2
    · simp [Array.getElem?_eq_none h'] at h2
  have k1 := key i oi j oj hi hj hne e1 e2
  have k2 := key j oj i oi hj hi (Ne.symm hne) e2 e1
  unfold Oper.apart
  cases hd : oi.dst with
  | none =>
    cases hd2 : oj.dst with
    | none => rfl
    | some d2 => simp [(k2 d2 hd2).1]
  | some d =>
    cases hd2 : oj.dst with
    | none => simp [(k1 d hd).1]
    | some d2 =>
      have h1 := (k1 d hd).2
      rw [hd2] at h1
      simp [(k1 d hd).1, (k2 d2 hd2).1, h1]

/-- The order: each operation's number; true: it is carried out in its place (nothing else may come up then); false: it reads and reckons alone, and may be taken first. -/
def ordOk (md : Region.Mode) (ops : Array Oper) (N : List Nat) : List (Nat × Bool) → Array Bool → Bool
  | [], listed => (Region.ready md ops listed).isEmpty
  | (i, act) :: r, listed => (if act then Region.ready md ops listed == [i] && (needS md ops N i || r.all fun x => x.2 && !needS md ops N x.1) else N.contains i && upB md ops listed i) && ordOk md ops N r (listed.setIfInBounds i true)

/-- An operation in a walk: itself, the slot that its guard asks and what it wants there, and: none: it reads and reckons alone; some b: it is carried out; b: S is to be shown behind it. -/
structure It where
  o : Oper
  g : Option (Tmp × Bool)
  k : Option Bool

def itOf (md : Region.Mode) (ops : Array Oper) (N : List Nat) (x : Nat × Bool) : Option It :=
  match ops[x.1]? with
  | none => none
  | some o => match o.guard with
    | none => some ⟨o, none, if x.2 then some (needS md ops N x.1) else none⟩
    | some (j, b) => match (ops[j]?).bind (·.dst) with
      | some t => some ⟨o, some (t, b), if x.2 then some (needS md ops N x.1) else none⟩
      | none => none

def asks (g : Option (Tmp × Bool)) (tmps : Array Value) : Bool :=
  match g with
  | none => true
  | some (t, b) => match tmps[t]? with
    | some (.bool c) => c == b
    | _ => false

theorem asks_eq {ops : Array Oper} {N : List Nat} {x : Nat × Bool} {it : It} (h : itOf md ops N x = some it) (tmps : Array Value) : ops[x.1]? = some it.o ∧ Region.wanted it.o (yielded ops tmps) = asks it.g tmps ∧ it.k = if x.2 then some (needS md ops N x.1) else none := by
  unfold itOf at h
  cases ho : ops[x.1]? with
  | none => rw [ho] at h; simp at h
  | some o =>
    rw [ho] at h
    simp only at h
    cases hg : o.guard with
    | none =>
      rw [hg] at h
      simp only [Option.some.injEq] at h
      subst h
      exact ⟨rfl, by simp [Region.wanted, hg, asks], rfl⟩
    | some jb =>
      obtain ⟨j, b⟩ := jb
      rw [hg] at h
      simp only at h
      cases hd : (ops[j]?).bind (·.dst) with
      | none => rw [hd] at h; simp at h
      | some t =>
        rw [hd] at h
        simp only [Option.some.injEq] at h
        subst h
        refine ⟨rfl, ?_, rfl⟩
        simp only [Region.wanted, hg, asks, yielded, hd, Option.bind_some]
        cases tmps[t]? with
        | none => rfl
        | some v => cases v <;> first | rfl | simp

/-- What is to be shown, operation by operation. -/
def wpSeq (P : Program) (Q : Exit → Act → World → Prop) (S : World → Prop) : List It → Act → World → Prop
  | [], a, w => Q .normal a w
  | x :: r, a, w => if asks x.g a.tmps then (match x.k with
      | none => ∃ v, (∀ W, S W → (execOp a.eval x.o).run P W = .ok (.value v) W) ∧ wpSeq P Q S r (a.put x.o.dst v) w
      | some b => x.o.wp P a w (fun a' w' => (b = true → S w') ∧ wpSeq P Q S r a' w') Q)
    else wpSeq P Q S r (a.put x.o.dst undef) w

theorem wpAnyN_of_seq (hs : Region.noSelect ops = true) (ht : tiedB md ops = true) (hQ : ∀ c a d v w, Q (.panic c) (a.put d v) w → Q (.panic c) a w) : ∀ (r : List (Nat × Bool)) (l : List It) (listed : Array Bool) (a : Act) (w : World),
    r.map (itOf md ops N) = l.map some → ordOk md ops N r listed = true → (S w ∨ (r.all fun x => x.2 && !needS md ops N x.1) = true) → wpSeq P Q S l a w → wpAnyN P md ops Q S N r.length listed a w
  | [], l, listed, a, w, hl, ho, _, h => by
    cases l with
    | nil => exact ⟨by simpa [ordOk] using ho, h⟩
    | cons x l => simp at hl
  | (i, act) :: r, l, listed, a, w, hl, ho, hS, h => by
    cases l with
    | nil => simp at hl
    | cons it l =>
      simp only [List.map_cons, List.cons.injEq] at hl
      obtain ⟨hit, hl⟩ := hl
      obtain ⟨hi, hw, hk⟩ := asks_eq hit a.tmps
      simp only [ordOk, Bool.and_eq_true] at ho
      obtain ⟨ho, ho'⟩ := ho
      simp only [wpSeq] at h
      cases act with
      | false =>
        simp only [Bool.false_eq_true, if_false, Bool.and_eq_true] at ho hk
        obtain ⟨hN, hr⟩ := ho
        have hr := upB_ready hr
        have hSw : S w := by
          rcases hS with hS | hS
          · exact hS
          · simp at hS
        rw [hk] at h
        simp only at h
        have hN' : i ∈ N := by simpa using hN
        by_cases hask : asks it.g a.tmps = true
        · rw [if_pos hask] at h
          obtain ⟨v, hv, h⟩ := h
          exact wpAnyN_first hi hN' (Region.noSelect_spec hs) (fun c a w => hQ c a _ _ w) r.length listed a w (tied_free ht hi hr) hr (.inl ⟨by rw [hw]; exact hask, hv⟩) hSw
            (wpAnyN_of_seq hs ht hQ r l _ _ _ hl ho' (.inl hSw) h)
        · rw [if_neg hask] at h
          exact wpAnyN_first hi hN' (Region.noSelect_spec hs) (fun c a w => hQ c a _ _ w) r.length listed a w (tied_free ht hi hr) hr (.inr ⟨by rw [hw]; simpa using hask, rfl⟩) hSw
            (wpAnyN_of_seq hs ht hQ r l _ _ _ hl ho' (.inl hSw) h)
      | true =>
        simp only [if_true, Bool.and_eq_true, Bool.or_eq_true] at ho hk
        obtain ⟨hr, hn⟩ := ho
        have hr : Region.ready md ops listed = [i] := by simpa using hr
        rw [hk] at h
        simp only at h
        refine ⟨fun h0 => (by rw [hr] at h0; cases h0), fun j hj => ?_⟩
        rw [hr] at hj
        obtain rfl : j = i := by simpa using hj
        have next : ∀ a' w', (needS md ops N j = true → S w') ∧ wpSeq P Q S l a' w' → (needS md ops N j = true → S w') ∧ wpAnyN P md ops Q S N r.length (listed.setIfInBounds j true) a' w' := fun a' w' h' =>
          ⟨h'.1, wpAnyN_of_seq hs ht hQ r l _ _ _ hl ho' (hn.elim (fun hn => .inl (h'.1 hn)) .inr) h'.2⟩
        unfold wpOp
        simp only [hi]
        by_cases hask : asks it.g a.tmps = true
        · rw [if_pos hask] at h
          rw [if_pos (by rw [hw]; exact hask)]
          exact .inl (Oper.wp_mono next h)
        · rw [if_neg hask] at h
          rw [if_neg (by rw [hw]; exact hask)]
          have hr' : (S w ∨ (r.all fun x => x.2 && !needS md ops N x.1) = true) := hS.imp id fun h => by
            simp only [List.all_cons, Bool.and_eq_true] at h
            exact h.2
          refine ⟨fun hneed => ?_, wpAnyN_of_seq hs ht hQ r l _ _ _ hl ho' hr' h⟩
          rcases hS with hS | hS
          · exact hS
          · simp only [List.all_cons, Bool.and_eq_true, hneed] at hS
            simp at hS

/-- The items, each taken out of what is left of the region's list: its place there, its guard's slot, its kind. -/
def relSeq : List (Nat × Option (Tmp × Bool) × Option Bool) → List Oper → Option (List It)
  | [], _ => some []
  | (k, g, f) :: r, l => match l[k]? with
    | none => none
    | some o => (relSeq r (l.eraseIdx k)).map (⟨o, g, f⟩ :: ·)

/-- What is to be shown, operation by operation, over what is left of the region's list. -/
def wpRel (P : Program) (Q : Exit → Act → World → Prop) (S : World → Prop) : List (Nat × Option (Tmp × Bool) × Option Bool) → List Oper → Act → World → Prop
  | [], _, a, w => Q .normal a w
  | (k, g, f) :: r, l, a, w => match l[k]? with
    | none => False
    | some o => if asks g a.tmps then (match f with
        | none => ∃ v, (∀ W, S W → (execOp a.eval o).run P W = .ok (.value v) W) ∧ wpRel P Q S r (l.eraseIdx k) (a.put o.dst v) w
        | some b => o.wp P a w (fun a' w' => (b = true → S w') ∧ wpRel P Q S r (l.eraseIdx k) a' w') Q)
      else wpRel P Q S r (l.eraseIdx k) (a.put o.dst undef) w

theorem wpSeq_of_rel : ∀ (rel : List (Nat × Option (Tmp × Bool) × Option Bool)) (l : List Oper) (its : List It) (a : Act) (w : World), relSeq rel l = some its → wpRel P Q S rel l a w → wpSeq P Q S its a w
  | [], l, its, a, w, hi, h => by
    simp only [relSeq, Option.some.injEq] at hi
    subst hi
    exact h
  | (k, g, f) :: r, l, its, a, w, hi, h => by
    simp only [relSeq] at hi
    simp only [wpRel] at h
    cases hk : l[k]? with
    | none => rw [hk] at h; exact h.elim
    | some o =>
      rw [hk] at h hi
      simp only at h hi
      obtain ⟨its', hi', rfl⟩ := Option.map_eq_some_iff.1 hi
      simp only [wpSeq]
      split
      · rename_i hg
        rw [if_pos hg] at h
        cases f with
        | none =>
          obtain ⟨v, hv, h⟩ := h
          exact ⟨v, hv, wpSeq_of_rel r _ _ _ _ hi' h⟩
        | some b => exact Oper.wp_mono (fun a' w' h' => ⟨h'.1, wpSeq_of_rel r _ _ _ _ hi' h'.2⟩) h
      · rename_i hg
        rw [if_neg hg] at h
        exact wpSeq_of_rel r _ _ _ _ hi' h

theorem wp_region_rel {id : Nat} {a : Act} {w : World} {l : List Oper} (S : World → Prop) (N : List Nat) (r : List (Nat × Bool)) (rel : List (Nat × Option (Tmp × Bool) × Option Bool)) (hm : P.follows .mixedOrders = true) (hs : Region.noSelect l.toArray = true) (ht : tiedB .any l.toArray = true)
    (hQ : ∀ c a d v w, Q (.panic c) (a.put d v) w → Q (.panic c) a w)
    (hn : r.length = l.length) (ho : ordOk .any l.toArray N r (Array.replicate l.length false) = true) (hl : (relSeq rel l).map (·.map some) = some (r.map (itOf .any l.toArray N))) (hS : S w.drew)
    (h : wpRel P Q S rel l a w.drew) : (Code.region id l.toArray true).wp P Q a w := by
  obtain ⟨its, hi, he⟩ := Option.map_eq_some_iff.1 hl
  have h1 : r.length = l.toArray.size := by simpa using hn
  exact wp_region_any hm (wpAny_of_N _ _ _ _ (h1 ▸ wpAnyN_of_seq hs ht hQ r its _ a _ he.symm (by simpa using ho) (.inl hS) (wpSeq_of_rel _ _ _ _ _ hi h)))

/-- The operations' numbers, in the order in which rel takes them out of what is left. -/
def absOf : List (Nat × Option (Tmp × Bool) × Option Bool) → List Nat → List (Nat × Bool)
  | [], _ => []
  | (k, _, f) :: r, idx => match idx[k]? with
    | none => []
    | some i => (i, f.isSome) :: absOf r (idx.eraseIdx k)
/-- rel's guards and marks are the region's own. -/
def relOk (md : Region.Mode) (ops : Array Oper) (N : List Nat) : List (Nat × Option (Tmp × Bool) × Option Bool) → List Nat → Bool
  | [], _ => true
  | (k, g, f) :: r, idx => match idx[k]? with
    | none => false
    | some i => (match ops[i]? with
      | none => false
      | some o => (match o.guard with
        | none => g == none
        | some (j, b) => match (ops[j]?).bind (·.dst) with
          | some t => g == some (t, b)
          | none => false) && (match f with
        | none => true
        | some b => b == needS md ops N i)) && relOk md ops N r (idx.eraseIdx k)

theorem erase_map {α β : Type} (f : α → β) : ∀ (l : List α) (k : Nat), (l.map f).eraseIdx k = (l.eraseIdx k).map f
  | [], _ => rfl
  | _ :: _, 0 => rfl
  | x :: l, k + 1 => by simp [erase_map f l k]

theorem relSeq_abs : ∀ (rel : List (Nat × Option (Tmp × Bool) × Option Bool)) (idx : List Nat) (l : List Oper), l.map some = idx.map (ops[·]?) → relOk md ops N rel idx = true →
    (relSeq rel l).map (·.map some) = some ((absOf rel idx).map (itOf md ops N))
  | [], _, _, _, _ => rfl
  | (k, g, f) :: r, idx, l, hl, h => by
    have hk : (l[k]?).map some = (idx[k]?).map (ops[·]?) := by rw [← List.getElem?_map, hl, List.getElem?_map]
    simp only [relOk] at h
    cases hi : idx[k]? with
    | none => rw [hi] at h; cases h
    | some i =>
      rw [hi] at h hk
      simp only [Bool.and_eq_true] at h
      obtain ⟨h1, h2⟩ := h
      cases ho : l[k]? with
      | none => rw [ho] at hk; cases hk
      | some o =>
        rw [ho] at hk
        simp only [Option.map_some, Option.some.injEq] at hk
        rw [← hk] at h1
        simp only [Bool.and_eq_true] at h1
        have hl' : (l.eraseIdx k).map some = (idx.eraseIdx k).map (ops[·]?) := by rw [← erase_map, hl, erase_map]
        have ih := relSeq_abs r _ _ hl' h2
        simp only [relSeq, ho, absOf, hi, List.map_cons]
        cases hr : relSeq r (l.eraseIdx k) with
        | none => rw [hr] at ih; cases ih
        | some its =>
          rw [hr] at ih
          simp only [Option.map_some, Option.some.injEq] at ih
          simp only [Option.map_some, List.map_cons, Option.some.injEq, List.cons.injEq]
          refine ⟨?_, ih⟩
          obtain ⟨h3, h4⟩ := h1
          unfold itOf
          simp only [← hk]
          have hf : f = if f.isSome = true then some (needS md ops N i) else none := by
            cases f with
            | none => rfl
            | some b => simp only [Option.isSome_some, if_true, Option.some.injEq]; simpa using h4
          cases hg : o.guard with
          | none =>
            rw [hg] at h3
            simp only [beq_iff_eq] at h3
            subst h3
            rw [← hf]
          | some jb =>
            obtain ⟨j, b⟩ := jb
            rw [hg] at h3
            simp only at h3 ⊢
            cases hd : (ops[j]?).bind (·.dst) with
            | none => rw [hd] at h3; cases h3
            | some t =>
              rw [hd] at h3
              simp only [beq_iff_eq] at h3
              subst h3
              simp only
              rw [← hf]

/-- The whole of what the kernel is to see of a region and an order. -/
def regOk (l : List Oper) (rel : List (Nat × Option (Tmp × Bool) × Option Bool)) : Bool :=
  let idx := List.range l.length
  let r := absOf rel idx
  let N := r.filterMap fun x => if x.2 then none else some x.1
  Region.noSelect l.toArray && (tiedB .any l.toArray && (r.length == l.length && (ordOk .any l.toArray N r (Array.replicate l.length false) && relOk .any l.toArray N rel idx)))

theorem wp_region_auto {id : Nat} {a : Act} {w : World} {l : List Oper} (S : World → Prop) (rel : List (Nat × Option (Tmp × Bool) × Option Bool)) (hm : P.follows .mixedOrders = true) (hok : regOk l rel = true)
    (hQ : ∀ c a d v w, Q (.panic c) (a.put d v) w → Q (.panic c) a w) (hS : S w.drew) (h : wpRel P Q S rel l a w.drew) : (Code.region id l.toArray true).wp P Q a w := by
  simp only [regOk, Bool.and_eq_true, beq_iff_eq] at hok
  obtain ⟨h1, h2, h3, h4, h5⟩ := hok
  refine wp_region_rel S _ _ rel hm h1 h2 hQ h3 h4 (relSeq_abs rel _ l ?_ h5) hS h
  apply List.ext_getElem?
  intro i
  by_cases hi : i < l.length
  · simp [List.getElem?_range hi, List.getElem?_eq_getElem hi]
  · rw [List.getElem?_eq_none (by simp; omega), List.getElem?_eq_none (by simp; omega)]

/-- S holds in W (a name of its own, that the walk's simp may use). -/
def Held (S : World → Prop) (W : World) : Prop := S W

section
variable {r : List (Nat × Option (Tmp × Bool) × Option Bool)} {l : List Oper} {a : Act} {w : World} {g : Option (Tmp × Bool)} {f : Option Bool} {o o0 o1 o2 o3 o4 o5 o6 o7 o8 : Oper}
theorem rel_nil (h : Q .normal a w) : wpRel P Q S [] l a w := h
theorem rel_front1 (h : wpRel P Q S ((0, g, f) :: r) (o1 :: o0 :: l) a w) : wpRel P Q S ((1, g, f) :: r) (o0 :: o1 :: l) a w := h
theorem rel_front2 (h : wpRel P Q S ((0, g, f) :: r) (o2 :: o0 :: o1 :: l) a w) : wpRel P Q S ((2, g, f) :: r) (o0 :: o1 :: o2 :: l) a w := h
theorem rel_front3 (h : wpRel P Q S ((0, g, f) :: r) (o3 :: o0 :: o1 :: o2 :: l) a w) : wpRel P Q S ((3, g, f) :: r) (o0 :: o1 :: o2 :: o3 :: l) a w := h
theorem rel_front4 (h : wpRel P Q S ((0, g, f) :: r) (o4 :: o0 :: o1 :: o2 :: o3 :: l) a w) : wpRel P Q S ((4, g, f) :: r) (o0 :: o1 :: o2 :: o3 :: o4 :: l) a w := h
theorem rel_front5 (h : wpRel P Q S ((0, g, f) :: r) (o5 :: o0 :: o1 :: o2 :: o3 :: o4 :: l) a w) : wpRel P Q S ((5, g, f) :: r) (o0 :: o1 :: o2 :: o3 :: o4 :: o5 :: l) a w := h
theorem rel_front6 (h : wpRel P Q S ((0, g, f) :: r) (o6 :: o0 :: o1 :: o2 :: o3 :: o4 :: o5 :: l) a w) : wpRel P Q S ((6, g, f) :: r) (o0 :: o1 :: o2 :: o3 :: o4 :: o5 :: o6 :: l) a w := h
theorem rel_frontk {k : Nat} {l' : List Oper} (hk : l[k]? = some o) (hl : l.eraseIdx k = l') (h : wpRel P Q S ((0, g, f) :: r) (o :: l') a w) : wpRel P Q S ((k, g, f) :: r) l a w := by
  subst hl
  simp only [wpRel, hk]
  exact h

theorem rel_pass {v : Value} (hv : ∀ W, Held S W → (execOp a.eval o).run P W = .ok (.value v) W) (h : wpRel P Q S r l (a.put o.dst v) w) : wpRel P Q S ((0, none, none) :: r) (o :: l) a w :=
  ⟨v, hv, h⟩
theorem rel_act {b : Bool} (h : ∀ K : Act → World → Prop, (∀ a w, (b = true → S w) ∧ wpRel P Q S r l a w → K a w) → o.wp P a w K Q) : wpRel P Q S ((0, none, some b) :: r) (o :: l) a w :=
  h _ fun _ _ h => h
theorem rel_ask (c : Bool) {t : Tmp} {b : Bool} (hc : a.tmps[t]? = some (.bool c)) (h1 : c = b → wpRel P Q S ((0, none, f) :: r) (o :: l) a w) (h2 : c = !b → wpRel P Q S r l (a.put o.dst undef) w) : wpRel P Q S ((0, some (t, b), f) :: r) (o :: l) a w := by
  have ha : asks (some (t, b)) a.tmps = (c == b) := by simp [asks, hc]
  simp only [wpRel, List.getElem?_cons_zero, List.eraseIdx_cons_zero, ha]
  by_cases hcb : c = b
  · subst hcb
    simp only [beq_self_eq_true, if_true]
    exact h1 rfl
  · rw [if_neg (by simpa using hcb)]
    exact h2 (by cases c <;> cases b <;> simp_all)
theorem rel_yes {t : Tmp} {b : Bool} (hc : a.tmps[t]? = some (.bool b)) (h1 : wpRel P Q S ((0, none, f) :: r) (o :: l) a w) : wpRel P Q S ((0, some (t, b), f) :: r) (o :: l) a w :=
  rel_ask b hc (fun _ => h1) (fun h => by cases b <;> cases h)
theorem rel_askF {c : Bool} {t : Tmp} (hc : a.tmps[t]? = some (.bool c)) (h1 : c = false → wpRel P Q S ((0, none, f) :: r) (o :: l) a w) (h2 : c = true → wpRel P Q S r l (a.put o.dst undef) w) : wpRel P Q S ((0, some (t, false), f) :: r) (o :: l) a w :=
  rel_ask c hc h1 h2
theorem rel_askT {c : Bool} {t : Tmp} (hc : a.tmps[t]? = some (.bool c)) (h1 : c = true → wpRel P Q S ((0, none, f) :: r) (o :: l) a w) (h2 : c = false → wpRel P Q S r l (a.put o.dst undef) w) : wpRel P Q S ((0, some (t, true), f) :: r) (o :: l) a w :=
  rel_ask c hc h1 h2
/-- A guard's slot that holds nothing (its own guard said no). -/
theorem rel_no {t : Tmp} {b : Bool} (hc : asks (some (t, b)) a.tmps = false) (h2 : wpRel P Q S r l (a.put o.dst undef) w) : wpRel P Q S ((0, some (t, b), f) :: r) (o :: l) a w := by
  simp only [wpRel, List.getElem?_cons_zero, List.eraseIdx_cons_zero, hc]
  exact h2
end
end
attribute [irreducible] wpRel
end Go.Proofs.YtcnkenknbmmglaaDoor.Ord
