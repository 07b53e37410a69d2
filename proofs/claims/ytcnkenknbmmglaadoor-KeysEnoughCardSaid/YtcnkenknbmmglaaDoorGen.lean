/- Arguments of every data kind, opened as the words' kinds (Kd) read them. -/
import Derived.Test.YtcnkenknbmmglaaDoorWWords
import Derived.ProofKit
import Derived.Deep.Slices
import Derived.SizedLaws
import Derived.ChangeArms
import Derived.ChangeSlices
import Derived.Lib.Hide
import Derived.MapKept
import Derived.Maps.Own
set_option linter.unusedSimpArgs false
set_option linter.unusedVariables false
namespace Go.Proofs.YtcnkenknbmmglaaDoor.Open
open Go Go.RowKit Go.ChangeShapes Go.WideShapes Go.ChangeAt Go.Deep Go.Proofs.YtcnkenknbmmglaaDoorW.PrintWords

/-- Whatever reads as data of type t is a value of the kind d, and ok. -/
def Opens {α : Type} (P : Program) (d : Kd α) (ok : α → Prop) (t : TypeId) : Prop :=
  ∀ (H : Type) (enc : TypeId × Value → H) (W : World) (fuel : Nat) (cs : List Value) (x : DataW H × List MemPlace), DataW.trod enc P W 0 (fun _ => true) true fuel t cs = some x → ∃ a, d.K W a cs ∧ ok a

section
variable {P : Program}
theorem opens_int {t : TypeId} {k : IntKind} (ht : P.underlying t = some (.int k)) : Opens P (Kd.int k) (fun a => (Lit.int k a).wf = true) t := fun H enc W fuel cs x h => by
  obtain ⟨n, rfl, _, hw⟩ := DataW.trod_int ht h
  exact ⟨n, rfl, hw⟩
theorem opens_bool {t : TypeId} (ht : P.underlying t = some .bool) : Opens P Kd.bool (fun _ => True) t := fun H enc W fuel cs x h => by
  obtain ⟨b, rfl, _⟩ := DataW.trod_bool ht h
  exact ⟨b, rfl, trivial⟩
theorem opens_string {t : TypeId} (ht : P.underlying t = some .string) : Opens P Kd.string (fun s => s.size ≤ maxLen) t := fun H enc W fuel cs x h => by
  obtain ⟨s, rfl, _, hs⟩ := DataW.trod_string ht h
  exact ⟨s, rfl, hs⟩
theorem opens_slice {α : Type} {d : Kd α} {ok : α → Prop} {t e : TypeId} (ht : P.underlying t = some (.slice e)) (he : P.cellsOf e = d.sz) (hd : Opens P d ok e) : Opens P (Kd.slice e d) (fun l => (∀ a ∈ l, ok a) ∧ l.length ≤ 9223372036854775807) t := fun H enc W fuel cs x h => by
  rcases open_slice ht h with ⟨rfl, _⟩ | ⟨a, len, cap, m, n, D, Pl, rfl, _, hl, hm, hmm, _, hel⟩
  · exact ⟨[], ⟨none, 0, rfl, Nat.le_refl _, ⟨rfl, by simp, fun h => by simp at h⟩⟩, by simp, by simp⟩
  · simp only [if_true] at hmm
    have key : ∀ k, k ≤ len → ∃ l : List α, l.length = k ∧ (∀ a ∈ l, ok a) ∧ ∀ j p, l[j]? = some p → ∃ c, c.length = d.sz ∧ d.K W p c ∧ ∀ i u, c[i]? = some u → W.cell? (a.add (j * d.sz + i)) = some u := by
      intro k
      induction k with
      | zero => exact fun _ => ⟨[], rfl, by simp, fun j p h => by simp at h⟩
      | succ k ih =>
        intro hk
        obtain ⟨l, hl1, hl0, hl2⟩ := ih (by omega)
        obtain ⟨cs', h1, h2⟩ := hel k (by omega)
        obtain ⟨y, hy, hoky⟩ := hd H enc W _ _ _ h2
        rw [he] at h1
        obtain ⟨_, _, h3⟩ := World.cells?_some h1
        refine ⟨l ++ [y], by simp [hl1], fun b hb => ?_, fun j p hp => ?_⟩
        · rcases List.mem_append.1 hb with hb | hb
          · exact hl0 b hb
          · rw [List.mem_singleton.1 hb]; exact hoky
        · by_cases hj : j < k
          · rw [List.getElem?_append_left (by omega)] at hp
            exact hl2 j p hp
          · have hlt := (List.getElem?_eq_some_iff.1 hp).1
            have : j = k := by simp [hl1] at hlt; omega
            subst this
            rw [List.getElem?_append_right (by omega), hl1] at hp
            simp at hp
            subst hp
            have hlen := d.K_len hy
            refine ⟨cs', hlen, hy, fun i u hu => ?_⟩
            have hi := (List.getElem?_eq_some_iff.1 hu).1
            have h4 := (h3 i (by omega)).trans hu
            have hadd : (a.add (j * d.sz)).add i = a.add (j * d.sz + i) := by
              unfold Addr.add
              split <;> split <;> simp_all [Nat.add_assoc]
            rwa [hadd] at h4
    obtain ⟨l, hl1, hl0, hl2⟩ := key len (Nat.le_refl _)
    have hb : len ≤ 9223372036854775807 := by simp only [maxLen] at hm; omega
    refine ⟨l, ⟨some a, cap, by rw [hl1], by omega, ⟨rfl, by omega, fun _ => ⟨a, rfl, hl2⟩⟩⟩, hl0, by omega⟩

/-- The same for fields from offset o on, that fill n cells. -/
def OpensF {α : Type} (P : Program) (d : Kd α) (ok : α → Prop) (fs : List Field) (o n : Nat) : Prop :=
  ∀ (H : Type) (enc : TypeId × Value → H) (W : World) (fuel : Nat) (cs : List Value), cs.length = n →
    (∀ f ∈ fs, ∃ x, DataW.trod enc P W 0 (fun _ => true) true fuel f.type ((cs.drop (f.offset - o)).take (P.cellsOf f.type)) = some x) → ∃ a, d.K W a cs ∧ ok a
theorem opensF_last {α : Type} {d : Kd α} {ok : α → Prop} {f : Field} {o n : Nat} (h : Opens P d ok f.type) (ho : f.offset = o) (hn : P.cellsOf f.type = n) : OpensF P d ok [f] o n := fun H enc W fuel cs hl hf => by
  obtain ⟨x, hx⟩ := hf f (by simp)
  rw [ho, Nat.sub_self, List.drop_zero, hn, List.take_of_length_le (by omega)] at hx
  exact h H enc W fuel cs x hx
theorem opensF_cons {α β : Type} {a : Kd α} {b : Kd β} {oka : α → Prop} {okb : β → Prop} {f : Field} {fs : List Field} {o s n m : Nat} (h : Opens P a oka f.type) (ho : f.offset = o) (hs : P.cellsOf f.type = s) (hr : OpensF P b okb fs (o + s) n)
    (hm : m = s + n) (hg : ∀ g ∈ fs, o + s ≤ g.offset) : OpensF P (Kd.pair a b) (fun x => oka x.1 ∧ okb x.2) (f :: fs) o m := fun H enc W fuel cs hl hf => by
  obtain ⟨x, hx⟩ := hf f (by simp)
  rw [ho, Nat.sub_self, List.drop_zero, hs] at hx
  obtain ⟨y, hy, hoy⟩ := h H enc W fuel _ x hx
  obtain ⟨z, hz, hoz⟩ := hr H enc W fuel (cs.drop s) (by rw [List.length_drop]; omega) (fun g hgm => by
    obtain ⟨x', hx'⟩ := hf g (List.mem_cons_of_mem _ hgm)
    have hge := hg g hgm
    refine ⟨x', ?_⟩
    rw [List.drop_drop, show s + (g.offset - (o + s)) = g.offset - o from by omega]
    exact hx')
  exact ⟨(y, z), ⟨cs.take s, cs.drop s, (List.take_append_drop s cs).symm, hy, hz⟩, hoy, hoz⟩
theorem opens_struct {α β : Type} {d : Kd α} {ok : α → Prop} {t : TypeId} {fs : Array Field} {n : Nat} (ht : P.underlying t = some (.struct fs)) (hn : P.cellsOf t = n) (hf : OpensF P d ok fs.toList 0 n) (g : β → α) (inv : α → β) (hi : ∀ a, g (inv a) = a) :
    Opens P (Kd.iso d g) (fun y => ok (g y)) t := fun H enc W fuel cs x h => by
  obtain ⟨xs, m, _, _, hl, hxl, hall⟩ := DataW.trod_struct ht h
  obtain ⟨a, ha, hok⟩ := hf H enc W m cs (by rw [hl, hn]) (fun f hfm => by
    obtain ⟨i, hi'⟩ := List.getElem?_of_mem hfm
    have h1 := hall i f (by simpa using hi')
    have hlt : i < xs.length := by
      have := (List.getElem?_eq_some_iff.1 hi').1
      simp at this
      omega
    rw [List.getElem?_eq_getElem hlt] at h1
    exact ⟨_, by rw [Nat.sub_zero]; exact h1⟩)
  exact ⟨inv a, show d.K W (g (inv a)) cs from by rw [hi]; exact ha, by show ok (g (inv a)); rw [hi]; exact hok⟩
theorem Opens.imp {α : Type} {d : Kd α} {ok ok' : α → Prop} {t : TypeId} (h : Opens P d ok t) (hi : ∀ a, ok a → ok' a) : Opens P d ok' t := fun H enc W fuel cs x hx => by
  obtain ⟨a, ha, hk⟩ := h H enc W fuel cs x hx
  exact ⟨a, ha, hi a hk⟩

/-- A slice among the arguments. -/
theorem open_arg {H : Type} {enc : TypeId × Value → H} {W : World} {α : Type} {d : Kd α} {ok : List α → Prop} {t e : TypeId} (ho : Opens P (Kd.slice e d) ok t) {A : Option Addr} {len cap : Nat} {D : DataW H} {p : List MemPlace} (h : DataW.Trod enc P W 0 (fun _ => true) true t (.slice A len cap) D p) :
    ∃ l, l.length = len ∧ l.length ≤ cap ∧ Kd.C d W A l.length l ∧ ok l := by
  obtain ⟨fuel, hf⟩ := h
  obtain ⟨l, ⟨A', c, hc, hle, hC⟩, hok⟩ := ho H enc W _ _ _ hf
  simp [Value.cells] at hc
  obtain ⟨rfl, rfl, rfl⟩ := hc
  exact ⟨l, rfl, hle, hC, hok⟩
/-- A slice is no longer than its weight allows. -/
theorem sized_arg {H : Type} {enc : TypeId × Value → H} {W : World} {base : Nat} {spare : Nat → Bool} {held : Bool} {t e : TypeId} {a : Option Addr} {len cap : Nat} {d : DataW H} {ps : List MemPlace} {ts : List TypeId} {ds : List (DataW H)} {j : Nat}
    (hsz : (DataW.weightsEach P ts ds).all (· ≤ reachBytes) = true) (ht : ts[j]? = some t) (hd : ds[j]? = some d) (hu : P.underlying t = some (.slice e)) {B : Nat} (hB : P.bytesOf e = B)
    (h : DataW.Trod enc P W base spare held t (.slice a len cap) d ps) : len * B ≤ 140737488351232 := by
  obtain ⟨fuel, hf⟩ := h
  rcases open_slice hu hf with ⟨hcs, _⟩ | ⟨x, l, c, m, n, D, Pl, hcs, _, hl, _, _, hx, _⟩
  · simp [Value.cells] at hcs
    obtain ⟨rfl, rfl, rfl⟩ := hcs
    simp
  · simp [Value.cells] at hcs
    obtain ⟨rfl, rfl, rfl⟩ := hcs
    obtain ⟨hx, _⟩ := Prod.mk.inj hx
    subst hx
    have z := sized_slice hsz ht hd hu
    rw [hB] at z
    simp only [List.length_map, List.length_range] at z
    exact Nat.le_trans (Nat.mul_le_mul_right _ (by omega)) z
end
end Go.Proofs.YtcnkenknbmmglaaDoor.Open
/- Loops with rounds, told once: a loop that asks something of each index; a loop that carries something on. -/
set_option linter.unusedSimpArgs false
set_option linter.unusedVariables false
namespace Go.Proofs.YtcnkenknbmmglaaDoor.P
open Go.RowKit Go.Proofs.YtcnkenknbmmglaaDoorW.PrintWords

theorem Ev.stepE {α : Type} {g : Nat → Option α} {r : α} (f : Nat → Option α) (h : ∀ k, g (k + 1) = f k) (k : Ev f r) : Ev g r := Ev.step h k
theorem Ev.ret {α : Type} {g : Nat → Option α} {r : α} (h : ∀ k, g (k + 1) = some r) : Ev g r := ⟨1, fun k hk => by
  obtain ⟨m, rfl⟩ : ∃ m, k = m + 1 := ⟨k - 1, by omega⟩
  exact h m⟩
theorem Ev.unique {α : Type} {g : Nat → Option α} {a b : α} (h : Ev g a) (k : Ev g b) : a = b := by
  obtain ⟨K, hK⟩ := h
  obtain ⟨L, hL⟩ := k
  have h1 := hK (max K L) (Nat.le_max_left _ _)
  have h2 := hL (max K L) (Nat.le_max_right _ _)
  rw [h1] at h2
  exact Option.some.inj h2
theorem Ev.and_now {α : Type} {g : Nat → Option α} {r : α} (h : ∃ K, ∀ k, K ≤ k → g k = some r) : Ev g r := h
theorem range_drop {n i : Nat} (h : i < n) : (List.range n).drop i = i :: (List.range n).drop (i + 1) := by
  rw [List.drop_eq_getElem_cons (by simpa using h)]
  simp
/-- A loop that leaves at the first index where p fails. -/
theorem loop_all {α : Type} {g : Nat → Nat → Option α} {n : Nat} {p : Nat → Bool} {bad R : α} (hbad : ∀ i, i < n → p i = false → Ev (fun k => g k i) bad)
    (hgo : ∀ i, i < n → p i = true → ∀ r, Ev (fun k => g k (i + 1)) r → Ev (fun k => g k i) r) (hend : Ev (fun k => g k n) R) : ∀ d i, n - i = d → i ≤ n → Ev (fun k => g k i) (if ((List.range n).drop i).all p then R else bad)
  | 0, i, hd, hi => by
    obtain rfl : i = n := by omega
    rw [List.drop_eq_nil_of_le (by simp)]
    exact hend
  | d + 1, i, hd, hi => by
    rw [range_drop (show i < n by omega), List.all_cons]
    cases hp : p i with
    | false => exact hbad i (by omega) hp
    | true => exact hgo i (by omega) hp _ (loop_all hbad hgo hend d (i + 1) (by omega) (by omega))
theorem loop_all0 {α : Type} {g : Nat → Nat → Option α} {n : Nat} {p : Nat → Bool} {bad R : α} (hbad : ∀ i, i < n → p i = false → Ev (fun k => g k i) bad)
    (hgo : ∀ i, i < n → p i = true → ∀ r, Ev (fun k => g k (i + 1)) r → Ev (fun k => g k i) r) (hend : Ev (fun k => g k n) R) : Ev (fun k => g k 0) (if (List.range n).all p then R else bad) :=
  loop_all hbad hgo hend n 0 (by omega) (by omega)
/-- What a loop carries on, after i rounds. -/
def foldN {σ : Type} (step : Nat → σ → σ) (s : σ) : Nat → σ
  | 0 => s
  | i + 1 => step i (foldN step s i)
theorem loop_fold {α σ : Type} {g : Nat → Nat → σ → Option α} {n : Nat} (step : Nat → σ → σ) (s0 : σ) (r : α)
    (hgo : ∀ i, i < n → ∀ r, Ev (fun k => g k (i + 1) (step i (foldN step s0 i))) r → Ev (fun k => g k i (foldN step s0 i)) r) (hend : Ev (fun k => g k n (foldN step s0 n)) r) : ∀ d i, n - i = d → i ≤ n → Ev (fun k => g k i (foldN step s0 i)) r
  | 0, i, hd, hi => by
    obtain rfl : i = n := by omega
    exact hend
  | d + 1, i, hd, hi => hgo i (by omega) _ (loop_fold step s0 r hgo hend d (i + 1) (by omega) (by omega))
theorem loop_fold0 {α σ : Type} {g : Nat → Nat → σ → Option α} {n : Nat} (step : Nat → σ → σ) (s0 : σ) (r : α)
    (hgo : ∀ i, i < n → ∀ r, Ev (fun k => g k (i + 1) (step i (foldN step s0 i))) r → Ev (fun k => g k i (foldN step s0 i)) r) (hend : Ev (fun k => g k n (foldN step s0 n)) r) : Ev (fun k => g k 0 s0) r :=
  loop_fold step s0 r hgo hend n 0 (by omega) (by omega)
theorem wrapN (i : Nat) (h : i < 9223372036854775807) : wrap64 ((i : Int) + 1) = ((i + 1 : Nat) : Int) := by unfold wrap64; omega
theorem wrapM (i : Nat) (h : i < 9223372036854775807) (h0 : 0 < i) : wrap64 ((i : Int) - 1) = ((i - 1 : Nat) : Int) := by unfold wrap64; omega
theorem Ev.map_some {α : Type} {g f : Nat → Option α} {r : α} (h : ∀ k, g k = f k) (k : Ev f r) : Ev g r := Ev.congr h k
theorem Ev.bind' {α β : Type} {g : Nat → Option α} {f : Nat → α → Option β} {a : α} {r : β} (h : Ev g a) (k : Ev (fun n => f n a) r) : Ev (fun n => (g n).bind (f n)) r := Ev.bind h k
end Go.Proofs.YtcnkenknbmmglaaDoor.P
/- Literals: blocks whose cells are written out, read as lists and owned as rows. -/
set_option linter.unusedSimpArgs false
set_option linter.unusedVariables false
namespace Go.Proofs.YtcnkenknbmmglaaDoor.P
open Go.RowKit Go.Proofs.YtcnkenknbmmglaaDoorW.PrintWords

theorem parts_get (n : Nat) : ∀ (parts : List (List Value)) (h : ∀ c ∈ parts, c.length = n) (j : Nat) (c : List Value), parts[j]? = some c → (parts.flatten.drop (j * n)).take n = c
  | [], _, j, c, hc => by simp at hc
  | p :: parts, h, 0, c, hc => by
    simp at hc
    subst hc
    have hp := h p (by simp)
    rw [Nat.zero_mul, List.drop_zero, List.flatten_cons, List.take_append_of_le_length (by omega), List.take_of_length_le (by omega)]
  | p :: parts, h, j + 1, c, hc => by
    have hp := h p (by simp)
    rw [List.flatten_cons, Nat.succ_mul, Nat.add_comm, ← List.drop_drop, show List.drop n (p ++ parts.flatten) = parts.flatten from by rw [← hp, List.drop_left]]
    exact parts_get n parts (fun q hq => h q (by simp [hq])) j c (by simpa using hc)
theorem parts_len (n : Nat) : ∀ (parts : List (List Value)) (h : ∀ c ∈ parts, c.length = n), parts.flatten.length = parts.length * n
  | [], _ => by simp
  | p :: parts, h => by
    rw [List.flatten_cons, List.length_append, h p (by simp), parts_len n parts (fun q hq => h q (by simp [hq])), List.length_cons, Nat.succ_mul, Nat.add_comm]
/-- Part by part, the cells of a list's elements. -/
def Parts {α : Type} (R : α → List Value → Prop) : List α → List (List Value) → Prop
  | [], [] => True
  | x :: xs, c :: cs => R x c ∧ Parts R xs cs
  | _, _ => False
theorem Parts.len {α : Type} {R : α → List Value → Prop} : ∀ {xs : List α} {cs : List (List Value)}, Parts R xs cs → cs.length = xs.length
  | [], [], _ => rfl
  | _ :: _, _ :: _, h => by simp [Parts.len h.2]
  | [], _ :: _, h => h.elim
  | _ :: _, [], h => h.elim
theorem Parts.get {α : Type} {R : α → List Value → Prop} : ∀ {xs : List α} {cs : List (List Value)}, Parts R xs cs → ∀ (j : Nat) (x : α), xs[j]? = some x → ∃ c, cs[j]? = some c ∧ R x c
  | [], [], _, j, x, hx => by simp at hx
  | y :: xs, c :: cs, h, 0, x, hx => by simp at hx; subst hx; exact ⟨c, rfl, h.1⟩
  | y :: xs, c :: cs, h, j + 1, x, hx => by
    obtain ⟨c', h1, h2⟩ := Parts.get h.2 j x (by simpa using hx)
    exact ⟨c', by simpa using h1, h2⟩
  | [], _ :: _, h, _, _, _ => h.elim
  | _ :: _, [], h, _, _, _ => h.elim
theorem Parts.all {α : Type} {R : α → List Value → Prop} {n : Nat} (hn : ∀ x c, R x c → c.length = n) : ∀ {xs : List α} {cs : List (List Value)}, Parts R xs cs → ∀ c ∈ cs, c.length = n
  | [], [], _, c, hc => by simp at hc
  | y :: xs, d :: cs, h, c, hc => by
    rcases List.mem_cons.1 hc with rfl | hc
    · exact hn _ _ h.1
    · exact Parts.all hn h.2 c hc
  | [], _ :: _, h, _, _ => h.elim
  | _ :: _, [], h, _, _ => h.elim
theorem Parts.reps {α : Type} {R : α → List Value → Prop} {n : Nat} (hn : ∀ x c, R x c → c.length = n) {xs : List α} {cs : List (List Value)} (h : Parts R xs cs) : Reps R n xs cs.flatten := by
  refine ⟨by rw [parts_len n cs (Parts.all hn h), Parts.len h], fun j p hp => ?_⟩
  obtain ⟨c, h1, h2⟩ := Parts.get h j p hp
  rw [parts_get n cs (Parts.all hn h) j c h1]
  exact h2
/-- A literal owned. -/
theorem R_parts {α : Type} {d : Kd α} (W : World) (base : Nat) (xs : List α) (parts : List (List Value)) (t : TypeId) (hb : base ≤ W.heap.size) (hl : xs.length ≤ 9223372036854775807) (h : Parts (d.M W base (fun k => k < W.heap.size)) xs parts) :
    d.R t (W.alloc (.cells parts.flatten.toArray t)) base (fun _ => True) (.slice (some ⟨W.heap.size, 0, none⟩) xs.length xs.length) xs := by
  have hr := Parts.reps (fun x c hx => d.K_len (d.K_of_M hx)) h
  refine ⟨fun _ _ => trivial, parts.flatten, ?_, ?_⟩
  · have h2 := World.ownsRow_lit (base := base) (e := t) (size := d.sz) W parts.flatten.toArray xs.length hb (by simpa [maxLen] using hl) (by simpa using hr.1)
    simpa using h2
  · refine hr.imp_ (fun p c hp => d.M_mono (fun k hk => ⟨trivial, fun he => ?_⟩) (Kd.M_below (d.M_bound hp) (below_alloc (Below.refl _ _) _)))
    have h3 : k = W.heap.size := by simpa [Value.ownBlock] using he
    have := hk.2.2.1
    omega
/-- A block whose cells are known, read. -/
theorem C_blk {α : Type} {d : Kd α} {W : World} {g : Nat} {t : TypeId} {fr : Nat × Nat} (xs : List α) (parts : List (List Value)) (hb : W.heap[g]? = some (.cells parts.flatten.toArray t fr)) (hl : xs.length ≤ 9223372036854775807) (h : Parts (d.K W) xs parts) :
    Kd.C d W (some ⟨g, 0, none⟩) xs.length xs := by
  have hn : ∀ x c, d.K W x c → c.length = d.sz := fun x c hx => d.K_len hx
  refine ⟨rfl, hl, fun _ => ⟨_, rfl, fun j p hp => ?_⟩⟩
  obtain ⟨c, h1, h2⟩ := Parts.get h j p hp
  refine ⟨c, d.K_len h2, h2, fun i u hu => ?_⟩
  rw [add_plain, cell_of_row _ _ _ _ _ fr hb]
  have h3 := parts_get d.sz parts (Parts.all hn h) j c h1
  have hi := (List.getElem?_eq_some_iff.1 hu).1
  rw [← h3, List.getElem?_take] at hu
  rw [d.K_len h2] at hi
  rw [if_pos hi, List.getElem?_drop] at hu
  simpa using hu
/-- A literal read. -/
theorem C_parts {α : Type} {d : Kd α} (W : World) (xs : List α) (parts : List (List Value)) (t : TypeId) (hl : xs.length ≤ 9223372036854775807) (h : Parts (d.K W) xs parts) :
    Kd.C d (W.alloc (.cells parts.flatten.toArray t)) (some ⟨W.heap.size, 0, none⟩) xs.length xs := by
  have hb : Below W.heap.size W (W.alloc (.cells parts.flatten.toArray t)) := below_alloc (Below.refl _ _) _
  have hn : ∀ x c, d.K W x c → c.length = d.sz := fun x c hx => d.K_len hx
  refine ⟨rfl, hl, fun _ => ⟨_, rfl, fun j p hp => ?_⟩⟩
  obtain ⟨c, h1, h2⟩ := Parts.get h j p hp
  refine ⟨c, d.K_len h2, d.K_below hb h2, fun i u hu => ?_⟩
  rw [add_plain, cell_of_row _ _ _ _ _ (0, 0) (heap_alloc_new W _)]
  have h3 := parts_get d.sz parts (Parts.all hn h) j c h1
  have hi := (List.getElem?_eq_some_iff.1 hu).1
  rw [← h3, List.getElem?_take] at hu
  rw [d.K_len h2] at hi
  rw [if_pos hi, List.getElem?_drop] at hu
  simpa using hu
end Go.Proofs.YtcnkenknbmmglaaDoor.P
/- Sets of whole numbers: a map[int]bool of the call's own, asked and written. -/
set_option linter.unusedSimpArgs false
set_option linter.unusedVariables false
namespace Go.Proofs.YtcnkenknbmmglaaDoor.P
open Go Go.RowKit Go.MapKept
def IntSet (w : World) (m : Nat) (ks : List Int) : Prop :=
  ∃ es clk, w.heap[m]? = some (.map es clk) ∧ es.toList.map (fun e => (e.key, e.val)) = ks.map fun k => (Value.int .i64 k, Value.bool true)

theorem IntSet.new (w : World) : IntSet (w.alloc (.map #[] 0)) w.heap.size [] := ⟨#[], 0, (heap_alloc w _).1, rfl⟩
theorem IntSet.same {w w' : World} {m : Nat} {ks : List Int} (h : IntSet w m ks) (e : w'.heap[m]? = w.heap[m]?) : IntSet w' m ks := by
  obtain ⟨es, clk, h1, h2⟩ := h
  exact ⟨es, clk, e.trans h1, h2⟩
theorem IntSet.lt {w : World} {m : Nat} {ks : List Int} (h : IntSet w m ks) : m < w.heap.size := by
  obtain ⟨es, clk, h1, _⟩ := h
  exact (Array.getElem?_eq_some_iff.1 h1).1

theorem findNow_set (x : Int) : ∀ (es : List MapEntry) (ks : List Int) (i : Nat), es.map (fun e => (e.key, e.val)) = ks.map (fun k => (Value.int .i64 k, Value.bool true)) →
    (ks.contains x = false → Instr.findNow (.int .i64) (.int .i64 x) es i = some none) ∧ (ks.contains x = true → ∃ j e, es[j]? = some e ∧ e.key = .int .i64 x ∧ e.val = .bool true ∧ Instr.findNow (.int .i64) (.int .i64 x) es i = some (some (i + j, .bool true)))
  | [], [], i, _ => ⟨fun _ => rfl, fun h => by simp at h⟩
  | [], k :: ks, i, h => by simp at h
  | e :: es, [], i, h => by simp at h
  | e :: es, k :: ks, i, h => by
    simp only [List.map_cons, List.cons.injEq, Prod.mk.injEq] at h
    obtain ⟨⟨h1, h2⟩, h3⟩ := h
    have ih := findNow_set x es ks (i + 1) h3
    by_cases hk : x = k
    · subst hk
      refine ⟨fun h => by simp at h, fun _ => ⟨0, e, rfl, h1, h2, ?_⟩⟩
      simp [Instr.findNow, h1, h2, Instr.sameNow]
    · have hs : Instr.findNow (.int .i64) (.int .i64 x) (e :: es) i = Instr.findNow (.int .i64) (.int .i64 x) es (i + 1) := by
        have hb : (x == k) = false := by simp [hk]
        simp [Instr.findNow, h1, Instr.sameNow, hb]
      rw [hs]
      have hc : (k :: ks).contains x = ks.contains x := by simp [hk]
      rw [hc]
      refine ⟨ih.1, fun h => ?_⟩
      obtain ⟨j, e', h4, h5, h6, h7⟩ := ih.2 h
      exact ⟨j + 1, e', by simpa using h4, h5, h6, by rw [h7]; simp; omega⟩

section
variable {P : Program} {t k e : TypeId}
theorem isKey_i64 (x : Int) : IsKey (.int .i64) (.int .i64 x) := by simp [IsKey]
theorem run_lookup_set (ht : P.underlying t = some (.map k e)) (hk : P.underlying k = some (.int .i64)) (hz : ∀ w, (zeroValue e).run P w = .ok (.bool false) w) {w : World} {m : Nat} {ks : List Int} (h : IntSet w m ks) (x : Int) :
    (Instr.lookup t (.map (some m)) (.int .i64 x) false).run P w = .ok (.bool (ks.contains x)) w := by
  obtain ⟨es, clk, h1, h2⟩ := h
  have hf := findNow_set x es.toList ks 0 h2
  cases hc : ks.contains x with
  | true =>
    obtain ⟨j, e', _, _, _, h7⟩ := hf.2 hc
    simp [Instr.lookup, run_underlying ht, Go.MapKept.run_getObj_map h1, run_checkKey hk (isKey_i64 x), run_findKey hk h7, Result.andThen]
  | false =>
    have h7 := hf.1 hc
    simp [Instr.lookup, run_underlying ht, Go.MapKept.run_getObj_map h1, run_checkKey hk (isKey_i64 x), run_findKey hk h7, hz, Result.andThen]

theorem run_mapUpdate_set (ht : P.underlying t = some (.map k e)) (hk : P.underlying k = some (.int .i64)) {w : World} {m : Nat} {ks : List Int} (h : IntSet w m ks) (x : Int) :
    ∃ o, (Instr.mapUpdate t (.map (some m)) (.int .i64 x) (.bool true)).run P w = .ok () { w with heap := w.heap.setIfInBounds m o } ∧ IntSet { w with heap := w.heap.setIfInBounds m o } m (if ks.contains x then ks else ks ++ [x]) := by
  have hm := h.lt
  obtain ⟨es, clk, h1, h2⟩ := h
  have hf := findNow_set x es.toList ks 0 h2
  cases hc : ks.contains x with
  | true =>
    obtain ⟨j, e', h4, h5, h6, h7⟩ := hf.2 hc
    have hj : es[j]? = some e' := by simpa using h4
    have hjl : j < es.size := (Array.getElem?_eq_some_iff.1 hj).1
    have h7' : Instr.findNow (.int .i64) (.int .i64 x) es.toList 0 = some (some (j, .bool true)) := by simpa using h7
    refine ⟨.map (es.modify j fun e => { e with key := .int .i64 x, val := .bool true }) clk, ?_, ?_⟩
    · simp [Instr.mapUpdate, run_underlying ht, Go.MapKept.run_getObj_map h1, run_checkKey hk (isKey_i64 x), run_findKey hk h7', hj, h5, run_keyThatStays (isKey_i64 x), run_setObj_map _ h1, Result.andThen]
    · refine ⟨_, _, (heap_set h1).1, ?_⟩
      simp only [if_true]
      rw [← h2]
      apply List.ext_getElem?
      intro i
      simp only [List.getElem?_map, Array.getElem?_toList, Array.getElem?_modify]
      by_cases hij : j = i
      · subst hij
        simp [hj, h5, h6]
      · simp [hij]
  | false =>
    have h7 := hf.1 hc
    refine ⟨.map (es.push { key := .int .i64 x, val := .bool true, born := clk }) (clk + 1), ?_, ?_⟩
    · simp [Instr.mapUpdate, run_underlying ht, Go.MapKept.run_getObj_map h1, run_checkKey hk (isKey_i64 x), run_findKey hk h7, run_setObj_map _ h1, Result.andThen]
    · exact ⟨_, _, (heap_set h1).1, by simp [h2]⟩

/-- 'm[x] = true' in a walk. -/
theorem wpList_update_set {ops : Array Oper} {rest : List Oper} {o : Oper} {a : Act} {Q : Exit → Act → World → Prop} {w : World}
    (hg : o.guard = none) (ma xa va : Operand) (hop : o.op = Op.mapUpdate t ma xa va) (ht : P.underlying t = some (.map k e)) (hk : P.underlying k = some (.int .i64)) {m : Nat} {ks : List Int} (hm : a.eval ma = .map (some m)) (h : IntSet w m ks)
    (x : Int) (hx : a.eval xa = .int .i64 x) (hv : a.eval va = .bool true)
    (hK : ∀ w', IntSet w' m (if ks.contains x then ks else ks ++ [x]) → w.grownBy w' (some m) → wpList P ops Q rest (a.put o.dst undef) w') : wpList P ops Q (o :: rest) a w := by
  refine wpList_plain hg fun K' hK' => ?_
  obtain ⟨ob, hrun, r1⟩ := run_mapUpdate_set ht hk h x
  unfold Oper.wp
  simp [execOp, hop, hm, hx, hv, hrun, Result.andThen]
  exact hK' _ _ (hK _ r1 ⟨rfl, rfl, rfl, by simp, fun b _ hb => by
    have hne : m ≠ b := fun e => hb (by rw [e])
    simp [hne]⟩)
end
end Go.Proofs.YtcnkenknbmmglaaDoor.P
