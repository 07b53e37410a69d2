/- Arguments of every data kind, opened as the words' kinds (Kd) read them. -/
import Derived.Test.YtjdhnhfglpogmaaWWords
import Derived.ProofKit
import Derived.Deep.Slices
import Derived.SizedLaws
import Derived.ChangeArms
import Derived.ChangeSlices
set_option linter.unusedSimpArgs false
set_option linter.unusedVariables false
namespace Go.Proofs.Ytjdhnhfglpogmaa.Open
open Go Go.RowKit Go.ChangeShapes Go.WideShapes Go.ChangeAt Go.Deep Go.Proofs.YtjdhnhfglpogmaaW.PrintWords

/-- Whatever reads as data of type t is a value of the kind d, and ok. -/
def Opens {α : Type} (P : Program) (d : Kd α) (ok : α → Prop) (t : TypeId) : Prop :=
  ∀ (H : Type) (enc : TypeId × Value → H) (W : World) (fuel : Nat) (cs : List Value) (x : DataW H × List MemPlace), DataW.trod enc P W 0 (fun _ => true) true fuel t cs = some x → ∃ a, d.K W a cs ∧ ok a

section
variable {P : Program}
theorem opens_int {t : TypeId} {k : IntKind} (ht : P.underlying t = some (.int k)) : Opens P (Kd.int k) (fun a => (Lit.int k a).wf = true) t := fun H enc W fuel cs x h => by
  obtain ⟨n, rfl, _, hw⟩ := DataW.trod_int ht h
  exact ⟨n, rfl, hw⟩
theorem opens_bool {t : TypeId} (ht : P.underlying t = some .bool) : Opens P Kd.bool (fun _ => True) t := fun H enc W fuel cs x h => by
  obtain ⟨b, rfl, _⟩ := DataW.trod_bool ht h
  exact ⟨b, rfl, trivial⟩
theorem opens_string {t : TypeId} (ht : P.underlying t = some .string) : Opens P Kd.string (fun s => s.size ≤ maxLen) t := fun H enc W fuel cs x h => by
  obtain ⟨s, rfl, _, hs⟩ := DataW.trod_string ht h
  exact ⟨s, rfl, hs⟩
theorem opens_slice {α : Type} {d : Kd α} {ok : α → Prop} {t e : TypeId} (ht : P.underlying t = some (.slice e)) (he : P.cellsOf e = d.sz) (hd : Opens P d ok e) : Opens P (Kd.slice e d) (fun l => (∀ a ∈ l, ok a) ∧ l.length ≤ 9223372036854775807) t := fun H enc W fuel cs x h => by
  rcases open_slice ht h with ⟨rfl, _⟩ | ⟨a, len, cap, m, n, D, Pl, rfl, _, hl, hm, hmm, _, hel⟩
  · exact ⟨[], ⟨none, 0, rfl, Nat.le_refl _, ⟨rfl, by simp, fun h => by simp at h⟩⟩, by simp, by simp⟩
  · simp only [if_true] at hmm
    have key : ∀ k, k ≤ len → ∃ l : List α, l.length = k ∧ (∀ a ∈ l, ok a) ∧ ∀ j p, l[j]? = some p → ∃ c, c.length = d.sz ∧ d.K W p c ∧ ∀ i u, c[i]? = some u → W.cell? (a.add (j * d.sz + i)) = some u := by
      intro k
      induction k with
      | zero => exact fun _ => ⟨[], rfl, by simp, fun j p h => by simp at h⟩
      | succ k ih =>
        intro hk
        obtain ⟨l, hl1, hl0, hl2⟩ := ih (by omega)
        obtain ⟨cs', h1, h2⟩ := hel k (by omega)
        obtain ⟨y, hy, hoky⟩ := hd H enc W _ _ _ h2
        rw [he] at h1
        obtain ⟨_, _, h3⟩ := World.cells?_some h1
        refine ⟨l ++ [y], by simp [hl1], fun b hb => ?_, fun j p hp => ?_⟩
        · rcases List.mem_append.1 hb with hb | hb
          · exact hl0 b hb
          · rw [List.mem_singleton.1 hb]; exact hoky
        · by_cases hj : j < k
          · rw [List.getElem?_append_left (by omega)] at hp
            exact hl2 j p hp
          · have hlt := (List.getElem?_eq_some_iff.1 hp).1
            have : j = k := by simp [hl1] at hlt; omega
            subst this
            rw [List.getElem?_append_right (by omega), hl1] at hp
            simp at hp
            subst hp
            have hlen := d.K_len hy
            refine ⟨cs', hlen, hy, fun i u hu => ?_⟩
            have hi := (List.getElem?_eq_some_iff.1 hu).1
            have h4 := (h3 i (by omega)).trans hu
            have hadd : (a.add (j * d.sz)).add i = a.add (j * d.sz + i) := by
              unfold Addr.add
              split <;> split <;> simp_all [Nat.add_assoc]
            rwa [hadd] at h4
    obtain ⟨l, hl1, hl0, hl2⟩ := key len (Nat.le_refl _)
    have hb : len ≤ 9223372036854775807 := by simp only [maxLen] at hm; omega
    refine ⟨l, ⟨some a, cap, by rw [hl1], by omega, ⟨rfl, by omega, fun _ => ⟨a, rfl, hl2⟩⟩⟩, hl0, by omega⟩

/-- The same for fields from offset o on, that fill n cells. -/
def OpensF {α : Type} (P : Program) (d : Kd α) (ok : α → Prop) (fs : List Field) (o n : Nat) : Prop :=
  ∀ (H : Type) (enc : TypeId × Value → H) (W : World) (fuel : Nat) (cs : List Value), cs.length = n →
    (∀ f ∈ fs, ∃ x, DataW.trod enc P W 0 (fun _ => true) true fuel f.type ((cs.drop (f.offset - o)).take (P.cellsOf f.type)) = some x) → ∃ a, d.K W a cs ∧ ok a
theorem opensF_last {α : Type} {d : Kd α} {ok : α → Prop} {f : Field} {o n : Nat} (h : Opens P d ok f.type) (ho : f.offset = o) (hn : P.cellsOf f.type = n) : OpensF P d ok [f] o n := fun H enc W fuel cs hl hf => by
  obtain ⟨x, hx⟩ := hf f (by simp)
  rw [ho, Nat.sub_self, List.drop_zero, hn, List.take_of_length_le (by omega)] at hx
  exact h H enc W fuel cs x hx
theorem opensF_cons {α β : Type} {a : Kd α} {b : Kd β} {oka : α → Prop} {okb : β → Prop} {f : Field} {fs : List Field} {o s n m : Nat} (h : Opens P a oka f.type) (ho : f.offset = o) (hs : P.cellsOf f.type = s) (hr : OpensF P b okb fs (o + s) n)
    (hm : m = s + n) (hg : ∀ g ∈ fs, o + s ≤ g.offset) : OpensF P (Kd.pair a b) (fun x => oka x.1 ∧ okb x.2) (f :: fs) o m := fun H enc W fuel cs hl hf => by
  obtain ⟨x, hx⟩ := hf f (by simp)
  rw [ho, Nat.sub_self, List.drop_zero, hs] at hx
  obtain ⟨y, hy, hoy⟩ := h H enc W fuel _ x hx
  obtain ⟨z, hz, hoz⟩ := hr H enc W fuel (cs.drop s) (by rw [List.length_drop]; omega) (fun g hgm => by
    obtain ⟨x', hx'⟩ := hf g (List.mem_cons_of_mem _ hgm)
    have hge := hg g hgm
    refine ⟨x', ?_⟩
    rw [List.drop_drop, show s + (g.offset - (o + s)) = g.offset - o from by omega]
    exact hx')
  exact ⟨(y, z), ⟨cs.take s, cs.drop s, (List.take_append_drop s cs).symm, hy, hz⟩, hoy, hoz⟩
theorem opens_struct {α β : Type} {d : Kd α} {ok : α → Prop} {t : TypeId} {fs : Array Field} {n : Nat} (ht : P.underlying t = some (.struct fs)) (hn : P.cellsOf t = n) (hf : OpensF P d ok fs.toList 0 n) (g : β → α) (inv : α → β) (hi : ∀ a, g (inv a) = a) :
    Opens P (Kd.iso d g) (fun y => ok (g y)) t := fun H enc W fuel cs x h => by
  obtain ⟨xs, m, _, _, hl, hxl, hall⟩ := DataW.trod_struct ht h
  obtain ⟨a, ha, hok⟩ := hf H enc W m cs (by rw [hl, hn]) (fun f hfm => by
    obtain ⟨i, hi'⟩ := List.getElem?_of_mem hfm
    have h1 := hall i f (by simpa using hi')
    have hlt : i < xs.length := by
      have := (List.getElem?_eq_some_iff.1 hi').1
      simp at this
      omega
    rw [List.getElem?_eq_getElem hlt] at h1
    exact ⟨_, by rw [Nat.sub_zero]; exact h1⟩)
  exact ⟨inv a, show d.K W (g (inv a)) cs from by rw [hi]; exact ha, by show ok (g (inv a)); rw [hi]; exact hok⟩
theorem Opens.imp {α : Type} {d : Kd α} {ok ok' : α → Prop} {t : TypeId} (h : Opens P d ok t) (hi : ∀ a, ok a → ok' a) : Opens P d ok' t := fun H enc W fuel cs x hx => by
  obtain ⟨a, ha, hk⟩ := h H enc W fuel cs x hx
  exact ⟨a, ha, hi a hk⟩

/-- A slice among the arguments. -/
theorem open_arg {H : Type} {enc : TypeId × Value → H} {W : World} {α : Type} {d : Kd α} {ok : List α → Prop} {t e : TypeId} (ho : Opens P (Kd.slice e d) ok t) {A : Option Addr} {len cap : Nat} {D : DataW H} {p : List MemPlace} (h : DataW.Trod enc P W 0 (fun _ => true) true t (.slice A len cap) D p) :
    ∃ l, l.length = len ∧ l.length ≤ cap ∧ Kd.C d W A l.length l ∧ ok l := by
  obtain ⟨fuel, hf⟩ := h
  obtain ⟨l, ⟨A', c, hc, hle, hC⟩, hok⟩ := ho H enc W _ _ _ hf
  simp [Value.cells] at hc
  obtain ⟨rfl, rfl, rfl⟩ := hc
  exact ⟨l, rfl, hle, hC, hok⟩
/-- A slice is no longer than its weight allows. -/
theorem sized_arg {H : Type} {enc : TypeId × Value → H} {W : World} {base : Nat} {spare : Nat → Bool} {held : Bool} {t e : TypeId} {a : Option Addr} {len cap : Nat} {d : DataW H} {ps : List MemPlace} {ts : List TypeId} {ds : List (DataW H)} {j : Nat}
    (hsz : (DataW.weightsEach P ts ds).all (· ≤ reachBytes) = true) (ht : ts[j]? = some t) (hd : ds[j]? = some d) (hu : P.underlying t = some (.slice e)) {B : Nat} (hB : P.bytesOf e = B)
    (h : DataW.Trod enc P W base spare held t (.slice a len cap) d ps) : len * B ≤ 140737488351232 := by
  obtain ⟨fuel, hf⟩ := h
  rcases open_slice hu hf with ⟨hcs, _⟩ | ⟨x, l, c, m, n, D, Pl, hcs, _, hl, _, _, hx, _⟩
  · simp [Value.cells] at hcs
    obtain ⟨rfl, rfl, rfl⟩ := hcs
    simp
  · simp [Value.cells] at hcs
    obtain ⟨rfl, rfl, rfl⟩ := hcs
    obtain ⟨hx, _⟩ := Prod.mk.inj hx
    subst hx
    have z := sized_slice hsz ht hd hu
    rw [hB] at z
    simp only [List.length_map, List.length_range] at z
    exact Nat.le_trans (Nat.mul_le_mul_right _ (by omega)) z
end
end Go.Proofs.Ytjdhnhfglpogmaa.Open
