/- Literals: blocks whose cells are written out, read as lists and owned as rows. -/
import Derived.Test.YtjdhnhfglpogmaaWWords
import Derived.Lib.Hide
set_option linter.unusedSimpArgs false
set_option linter.unusedVariables false
namespace Go.Proofs.Ytjdhnhfglpogmaa.P
open Go.RowKit Go.Proofs.YtjdhnhfglpogmaaW.PrintWords

theorem parts_get (n : Nat) : ∀ (parts : List (List Value)) (h : ∀ c ∈ parts, c.length = n) (j : Nat) (c : List Value), parts[j]? = some c → (parts.flatten.drop (j * n)).take n = c
  | [], _, j, c, hc => by simp at hc
  | p :: parts, h, 0, c, hc => by
    simp at hc
    subst hc
    have hp := h p (by simp)
    rw [Nat.zero_mul, List.drop_zero, List.flatten_cons, List.take_append_of_le_length (by omega), List.take_of_length_le (by omega)]
  | p :: parts, h, j + 1, c, hc => by
    have hp := h p (by simp)
    rw [List.flatten_cons, Nat.succ_mul, Nat.add_comm, ← List.drop_drop, show List.drop n (p ++ parts.flatten) = parts.flatten from by rw [← hp, List.drop_left]]
    exact parts_get n parts (fun q hq => h q (by simp [hq])) j c (by simpa using hc)
theorem parts_len (n : Nat) : ∀ (parts : List (List Value)) (h : ∀ c ∈ parts, c.length = n), parts.flatten.length = parts.length * n
  | [], _ => by simp
  | p :: parts, h => by
    rw [List.flatten_cons, List.length_append, h p (by simp), parts_len n parts (fun q hq => h q (by simp [hq])), List.length_cons, Nat.succ_mul, Nat.add_comm]
/-- Part by part, the cells of a list's elements. -/
def Parts {α : Type} (R : α → List Value → Prop) : List α → List (List Value) → Prop
  | [], [] => True
  | x :: xs, c :: cs => R x c ∧ Parts R xs cs
  | _, _ => False
theorem Parts.len {α : Type} {R : α → List Value → Prop} : ∀ {xs : List α} {cs : List (List Value)}, Parts R xs cs → cs.length = xs.length
  | [], [], _ => rfl
  | _ :: _, _ :: _, h => by simp [Parts.len h.2]
  | [], _ :: _, h => h.elim
  | _ :: _, [], h => h.elim
theorem Parts.get {α : Type} {R : α → List Value → Prop} : ∀ {xs : List α} {cs : List (List Value)}, Parts R xs cs → ∀ (j : Nat) (x : α), xs[j]? = some x → ∃ c, cs[j]? = some c ∧ R x c
  | [], [], _, j, x, hx => by simp at hx
  | y :: xs, c :: cs, h, 0, x, hx => by simp at hx; subst hx; exact ⟨c, rfl, h.1⟩
  | y :: xs, c :: cs, h, j + 1, x, hx => by
    obtain ⟨c', h1, h2⟩ := Parts.get h.2 j x (by simpa using hx)
    exact ⟨c', by simpa using h1, h2⟩
  | [], _ :: _, h, _, _, _ => h.elim
  | _ :: _, [], h, _, _, _ => h.elim
theorem Parts.all {α : Type} {R : α → List Value → Prop} {n : Nat} (hn : ∀ x c, R x c → c.length = n) : ∀ {xs : List α} {cs : List (List Value)}, Parts R xs cs → ∀ c ∈ cs, c.length = n
  | [], [], _, c, hc => by simp at hc
  | y :: xs, d :: cs, h, c, hc => by
    rcases List.mem_cons.1 hc with rfl | hc
    · exact hn _ _ h.1
    · exact Parts.all hn h.2 c hc
  | [], _ :: _, h, _, _ => h.elim
  | _ :: _, [], h, _, _ => h.elim
theorem Parts.reps {α : Type} {R : α → List Value → Prop} {n : Nat} (hn : ∀ x c, R x c → c.length = n) {xs : List α} {cs : List (List Value)} (h : Parts R xs cs) : Reps R n xs cs.flatten := by
  refine ⟨by rw [parts_len n cs (Parts.all hn h), Parts.len h], fun j p hp => ?_⟩
  obtain ⟨c, h1, h2⟩ := Parts.get h j p hp
  rw [parts_get n cs (Parts.all hn h) j c h1]
  exact h2
/-- A literal owned. -/
theorem R_parts {α : Type} {d : Kd α} (W : World) (base : Nat) (xs : List α) (parts : List (List Value)) (t : TypeId) (hb : base ≤ W.heap.size) (hl : xs.length ≤ 9223372036854775807) (h : Parts (d.M W base (fun k => k < W.heap.size)) xs parts) :
    d.R t (W.alloc (.cells parts.flatten.toArray t)) base (fun _ => True) (.slice (some ⟨W.heap.size, 0, none⟩) xs.length xs.length) xs := by
  have hr := Parts.reps (fun x c hx => d.K_len (d.K_of_M hx)) h
  refine ⟨fun _ _ => trivial, parts.flatten, ?_, ?_⟩
  · have h2 := World.ownsRow_lit (base := base) (e := t) (size := d.sz) W parts.flatten.toArray xs.length hb (by simpa [maxLen] using hl) (by simpa using hr.1)
    simpa using h2
  · refine hr.imp_ (fun p c hp => d.M_mono (fun k hk => ⟨trivial, fun he => ?_⟩) (Kd.M_below (d.M_bound hp) (below_alloc (Below.refl _ _) _)))
    have h3 : k = W.heap.size := by simpa [Value.ownBlock] using he
    have := hk.2.2.1
    omega
/-- A block whose cells are known, read. -/
theorem C_blk {α : Type} {d : Kd α} {W : World} {g : Nat} {t : TypeId} {fr : Nat × Nat} (xs : List α) (parts : List (List Value)) (hb : W.heap[g]? = some (.cells parts.flatten.toArray t fr)) (hl : xs.length ≤ 9223372036854775807) (h : Parts (d.K W) xs parts) :
    Kd.C d W (some ⟨g, 0, none⟩) xs.length xs := by
  have hn : ∀ x c, d.K W x c → c.length = d.sz := fun x c hx => d.K_len hx
  refine ⟨rfl, hl, fun _ => ⟨_, rfl, fun j p hp => ?_⟩⟩
  obtain ⟨c, h1, h2⟩ := Parts.get h j p hp
  refine ⟨c, d.K_len h2, h2, fun i u hu => ?_⟩
  rw [add_plain, cell_of_row _ _ _ _ _ fr hb]
  have h3 := parts_get d.sz parts (Parts.all hn h) j c h1
  have hi := (List.getElem?_eq_some_iff.1 hu).1
  rw [← h3, List.getElem?_take] at hu
  rw [d.K_len h2] at hi
  rw [if_pos hi, List.getElem?_drop] at hu
  simpa using hu
/-- A literal read. -/
theorem C_parts {α : Type} {d : Kd α} (W : World) (xs : List α) (parts : List (List Value)) (t : TypeId) (hl : xs.length ≤ 9223372036854775807) (h : Parts (d.K W) xs parts) :
    Kd.C d (W.alloc (.cells parts.flatten.toArray t)) (some ⟨W.heap.size, 0, none⟩) xs.length xs := by
  have hb : Below W.heap.size W (W.alloc (.cells parts.flatten.toArray t)) := below_alloc (Below.refl _ _) _
  have hn : ∀ x c, d.K W x c → c.length = d.sz := fun x c hx => d.K_len hx
  refine ⟨rfl, hl, fun _ => ⟨_, rfl, fun j p hp => ?_⟩⟩
  obtain ⟨c, h1, h2⟩ := Parts.get h j p hp
  refine ⟨c, d.K_len h2, d.K_below hb h2, fun i u hu => ?_⟩
  rw [add_plain, cell_of_row _ _ _ _ _ (0, 0) (heap_alloc_new W _)]
  have h3 := parts_get d.sz parts (Parts.all hn h) j c h1
  have hi := (List.getElem?_eq_some_iff.1 hu).1
  rw [← h3, List.getElem?_take] at hu
  rw [d.K_len h2] at hi
  rw [if_pos hi, List.getElem?_drop] at hu
  simpa using hu
end Go.Proofs.Ytjdhnhfglpogmaa.P
