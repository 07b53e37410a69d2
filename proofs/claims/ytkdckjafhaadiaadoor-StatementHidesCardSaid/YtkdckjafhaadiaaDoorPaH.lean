/- Chapter 43: lines with other amounts, and blinds that leave the commitments as they are; slices' headers. -/
import Derived.Test.YtkdckjafhaadiaaDoorSx
import Derived.Test.YtkdckjafhaadiaaDoorPx8
import Derived.Test.YtkdckjafhaadiaaDoorPx7
set_option linter.unusedSimpArgs false
set_option linter.unusedVariables false
namespace Go.Proofs.YtkdckjafhaadiaaDoor.P
open Go Go.RowKit Go.Proofs.YtkdckjafhaadiaaDoorW.PrintWords Go.Proofs.YtkdckjafhaadiaaDoorW.PrintLast Go.Proofs.YtkdckjafhaadiaaDoorW.PrintMore

theorem lines_parts {l : List S50} (h : linesB l = true) : l.length ≤ 64 ∧ l.all lineB = true ∧ riseB S50.f0 l = true := by
  simp only [linesB, Bool.and_eq_true, decide_eq_true_eq] at h
  exact h
def overZ (a : Int) (x : Nat) : Int := ((a.toNat * x ^ (Nt.Q - 2) % Nt.Q : Nat) : Int)
theorem overZ_lt (a : Int) (x : Nat) : 0 ≤ overZ a x ∧ overZ a x < 1073741789 := by
  unfold overZ
  have := Nat.mod_lt (a.toNat * x ^ (Nt.Q - 2)) Q_pos
  unfold Nt.Q at *
  omega
def newC (x : Nat) (c : Int) (y : S50) : S50 := ⟨y.f0, c, (y.f2 + overZ ((y.f1 - c) % 1073741789) x) % 1073741789⟩
def takes (cents : List Int) (i : Nat) : Prop := i < cents.length ∧ -1000000000 ≤ rd cents (i : Int) ∧ rd cents (i : Int) ≤ 1000000000
instance (cents : List Int) (i : Nat) : Decidable (takes cents i) := by unfold takes; exact inferInstance
def newLine (x : Nat) (cents : List Int) (i : Nat) (y : S50) : S50 := if takes cents i then newC x (rd cents (i : Int)) y else y
def newL (x : Nat) (cents : List Int) : Nat → List S50 → List S50
  | _, [] => []
  | i, y :: l => newLine x cents i y :: newL x cents (i + 1) l
theorem newL_len (x : Nat) (cents : List Int) : ∀ (l : List S50) (i : Nat), (newL x cents i l).length = l.length
  | [], _ => rfl
  | y :: l, i => by simp [newL, newL_len x cents l (i + 1)]
theorem newL_append (x : Nat) (cents : List Int) : ∀ (l m : List S50) (i : Nat), newL x cents i (l ++ m) = newL x cents i l ++ newL x cents (i + l.length) m
  | [], m, i => rfl
  | y :: l, m, i => by
    simp only [List.cons_append, newL, newL_append x cents l m (i + 1), List.length_cons]
    rw [show i + 1 + l.length = i + (l.length + 1) from by omega]
theorem newL_take (x : Nat) (cents : List Int) {l : List S50} {i : Nat} (hi : i < l.length) : newL x cents 0 (l.take (i + 1)) = newL x cents 0 (l.take i) ++ [newLine x cents i l[i]] := by
  rw [List.take_succ_eq_append_getElem hi, newL_append, List.length_take, Nat.min_eq_left (by omega), Nat.zero_add]
  rfl
theorem new_core {x y r s X d : Nat} (hXm : (X + y) % Nt.Q = x) (hsX : s * d % Nt.Q = X) : 4 ^ x * pub s ^ r % Nt.P = 4 ^ y * pub s ^ ((r + d) % Nt.Q) % Nt.P := by
  have hE := pub_el s
  rw [Nat.mul_mod (4 ^ y), hE.pow_mod, ← Nat.mul_mod]
  unfold pub
  rw [Nat.mul_mod, ← Nat.pow_mod, ← Nat.mul_mod, Nat.mul_mod (4 ^ y), ← Nat.pow_mod, ← Nat.mul_mod]
  rw [← Nat.pow_mul, ← Nat.pow_mul, ← Nat.pow_add, ← Nat.pow_add, ← Nt.G_el.pow_mod, ← Nt.G_el.pow_mod (y + s * (r + d))]
  have e : (x + s * r) % Nt.Q = (y + s * (r + d)) % Nt.Q := by
    rw [Nat.mul_add, show y + (s * r + s * d) = s * d + (y + s * r) from by omega, Nat.add_mod (s * d), hsX, Nat.add_mod_mod, ← Nat.add_assoc, ← hXm]
    rw [Nat.mod_add_mod]
  rw [e]
theorem newC_line {x : Nat} {c : Int} {y : S50} (hy : lineB y = true) (h0 : -1000000000 ≤ c) (h1 : c ≤ 1000000000) : lineB (newC x c y) = true := by
  have p := line_parts hy
  have q0 := Int.emod_nonneg (y.f2 + overZ ((y.f1 - c) % 1073741789) x) (show (1073741789 : Int) ≠ 0 by decide)
  have q1 := Int.emod_lt_of_pos (y.f2 + overZ ((y.f1 - c) % 1073741789) x) (show (0 : Int) < 1073741789 by decide)
  unfold newC
  generalize (y.f2 + overZ ((y.f1 - c) % 1073741789) x) % 1073741789 = z at *
  simp only [lineB, btw, Bool.and_eq_true, decide_eq_true_eq]
  exact ⟨⟨p.1, p.2.1⟩, ⟨h0, h1⟩, q0, by omega⟩
theorem newC_cm {s : Nat} (s0 : 0 < s) (s1 : s < 1073741789) {c : Int} {y : S50} (hy : lineB y = true) (h0 : -1000000000 ≤ c) (h1 : c ≤ 1000000000) : cmI (pub s : Int) (newC s c y) = cmI (pub s : Int) y := by
  have p := line_parts hy
  have hl := pub_lt s
  have hE := pub_el s
  have hn := pub_ne s0 s1
  rw [cmI_nat hl hE hn (newC_line hy h0 h1), cmI_nat hl hE hn hy]
  obtain ⟨X, hX⟩ : ∃ X : Nat, (y.f1 - c) % 1073741789 = (X : Int) := ⟨((y.f1 - c) % 1073741789).toNat, by omega⟩
  have hXl : X < Nt.Q := by unfold Nt.Q; omega
  have hsd : ¬ Nt.Q ∣ s := fun hd => by have := Nat.le_of_dvd s0 hd; unfold Nt.Q at this; omega
  obtain ⟨d, hd⟩ : ∃ d, d = X * s ^ (Nt.Q - 2) % Nt.Q := ⟨_, rfl⟩
  have hsX : s * d % Nt.Q = X := by
    rw [hd, Nat.mul_mod_mod, Nat.mul_comm X, ← Nat.mul_assoc, Nat.mul_mod, Nt.prQ.inverse hsd, Nat.one_mul, Nat.mod_mod, Nat.mod_eq_of_lt hXl]
  have hov : overZ ((y.f1 - c) % 1073741789) s = (d : Int) := by unfold overZ; rw [hX, Int.toNat_natCast, hd]
  have hc : cN (newC s c y) = (c % 1073741789).toNat := rfl
  have hb : bN (newC s c y) = (bN y + d) % Nt.Q := by
    unfold bN newC
    simp only
    rw [hov]
    unfold Nt.Q
    omega
  have hXm : (X + (c % 1073741789).toNat) % Nt.Q = cN y := by
    unfold cN Nt.Q
    omega
  rw [hc, hb, new_core (r := bN y) hXm hsX]
theorem newLine_line {s : Nat} {cents : List Int} {i : Nat} {y : S50} (hy : lineB y = true) : lineB (newLine s cents i y) = true := by
  unfold newLine
  split
  · next h => exact newC_line hy h.2.1 h.2.2
  · exact hy
theorem newLine_cm {s : Nat} (s0 : 0 < s) (s1 : s < 1073741789) {cents : List Int} {i : Nat} {y : S50} (hy : lineB y = true) : cmI (pub s : Int) (newLine s cents i y) = cmI (pub s : Int) y := by
  unfold newLine
  split
  · next h => exact newC_cm s0 s1 hy h.2.1 h.2.2
  · rfl
theorem newLine_f0 (s : Nat) (cents : List Int) (i : Nat) (y : S50) : (newLine s cents i y).f0 = y.f0 := by
  unfold newLine
  split <;> rfl
theorem newL_cm {s : Nat} (s0 : 0 < s) (s1 : s < 1073741789) (cents : List Int) : ∀ (l : List S50) (i : Nat), l.all lineB = true → cmL (pub s : Int) (newL s cents i l) = cmL (pub s : Int) l ∧ (newL s cents i l).all lineB = true
  | [], _, _ => ⟨rfl, rfl⟩
  | y :: l, i, h => by
    simp only [List.all_cons, Bool.and_eq_true] at h
    obtain ⟨e1, e2⟩ := newL_cm s0 s1 cents l (i + 1) h.2
    refine ⟨?_, ?_⟩
    · simp only [newL, cmL, List.map_cons] at e1 ⊢
      rw [newLine_cm s0 s1 h.1, e1]
    · simp only [newL, List.all_cons, newLine_line h.1, e2, Bool.and_self]
theorem newL_rise (s : Nat) (cents : List Int) : ∀ (l : List S50) (i : Nat), riseB S50.f0 (newL s cents i l) = riseB S50.f0 l
  | [], _ => rfl
  | [y], _ => rfl
  | y :: z :: l, i => by
    have ih := newL_rise s cents (z :: l) (i + 1)
    simp only [newL, riseB, newLine_f0] at ih ⊢
    rw [ih]
theorem newL_lines {s : Nat} (s0 : 0 < s) (s1 : s < 1073741789) (cents : List Int) {l : List S50} (h : linesB l = true) : linesB (newL s cents 0 l) = true := by
  obtain ⟨h1, h2, h3⟩ := lines_parts h
  unfold linesB
  rw [newL_len, decide_eq_true h1, (newL_cm s0 s1 cents l 0 h2).2, newL_rise, h3]
  rfl
theorem sealG_ext (h : Int) : ∀ (a b : List (List S50)) (i : Nat), a.map (cmL h) = b.map (cmL h) → sealG h i a = sealG h i b
  | [], [], _, _ => rfl
  | [], y :: b, _, e => by simp at e
  | x :: a, [], _, e => by simp at e
  | x :: a, y :: b, i, e => by
    simp only [List.map_cons, List.cons.injEq] at e
    simp only [sealG, e.1, sealG_ext h a b (i + 1) e.2]
theorem seal_new {s : Nat} (s0 : 0 < s) (s1 : s < 1073741789) (cents : List Int) {lines : List (List S50)} (ha : sealOk (pub s : Int) lines = true) {who : Nat} (hw : who < lines.length) :
    sealG (pub s : Int) 0 (lines.set who (newL s cents 0 lines[who])) = sealG (pub s : Int) 0 lines ∧ sealOk (pub s : Int) (lines.set who (newL s cents 0 lines[who])) = true := by
  obtain ⟨k1, k2⟩ := sealOk_at ha hw
  refine ⟨sealG_ext _ _ _ 0 ?_, List.all_eq_true.2 fun l hl => ?_⟩
  · rw [List.map_set, (newL_cm s0 s1 cents lines[who] 0 (lines_parts k2).2.1).1]
    refine List.ext_getElem (by rw [List.length_set]) fun i h1 h2 => ?_
    rw [List.getElem_set]
    split
    · next e => subst e; rw [List.getElem_map]
    · rfl
  · rcases List.mem_or_eq_of_mem_set hl with h | h
    · exact List.all_eq_true.1 ha l h
    · rw [h, k1, newL_lines s0 s1 cents k2]
      rfl
theorem same02_l0 (l : List Int) (hn : l.length ≤ 1000000) : ∀ (d i k : Nat), l.length - i = d → i ≤ l.length → d < k → cohousingref02_Same.l0 k l l (i : Nat) = some true
  | 0, i, k, hd, hi, hk => by
    obtain ⟨k, rfl⟩ : ∃ n, k = n + 1 := ⟨k - 1, by omega⟩
    simp only [cohousingref02_Same.l0]
    rw [if_neg (by omega)]
  | d + 1, i, k, hd, hi, hk => by
    obtain ⟨k, rfl⟩ : ∃ n, k = n + 1 := ⟨k - 1, by omega⟩
    simp only [cohousingref02_Same.l0]
    rw [if_pos (by omega), if_pos (by omega), if_pos (by omega), if_pos trivial, show wrap64 ((i : Int) + 1) = ((i + 1 : Nat) : Int) by unfold wrap64; omega]
    exact same02_l0 l hn d (i + 1) k (by omega) (by omega) (by omega)
theorem same06_l0 (l : List Int) (hn : l.length ≤ 1000000) : ∀ (d i k : Nat), l.length - i = d → i ≤ l.length → d < k → cohousingref06_Same.l0 k l l (i : Nat) = some true
  | 0, i, k, hd, hi, hk => by
    obtain ⟨k, rfl⟩ : ∃ n, k = n + 1 := ⟨k - 1, by omega⟩
    simp only [cohousingref06_Same.l0]
    rw [if_neg (by omega)]
  | d + 1, i, k, hd, hi, hk => by
    obtain ⟨k, rfl⟩ : ∃ n, k = n + 1 := ⟨k - 1, by omega⟩
    simp only [cohousingref06_Same.l0]
    rw [if_pos (by omega), if_pos (by omega), if_pos (by omega), if_pos trivial, show wrap64 ((i : Int) + 1) = ((i + 1 : Nat) : Int) by unfold wrap64; omega]
    exact same06_l0 l hn d (i + 1) k (by omega) (by omega) (by omega)
theorem sameSealed_f (x : S45) (hn : x.f2.length ≤ 1000000) (k : Nat) (hk : x.f2.length < k) : cohousingref43_SameSealed.f k x.f0 x.f1 x.f2 x.f0 x.f1 x.f2 = some true := by
  unfold cohousingref43_SameSealed.f cohousingref02_Same.f
  rw [if_pos rfl, if_pos rfl, if_pos rfl, show ((0 : Int)) = ((0 : Nat) : Int) from rfl, same02_l0 x.f2 hn x.f2.length 0 k (by omega) (by omega) hk]
  rfl
theorem same43_f (a b c d : Int) (l : List S50) (p : List Int) (hl : l.length ≤ 1000000) (hp : p.length ≤ 1000000) (k : Nat) (hk : l.length + p.length + 1 < k) : cohousingref43_Same.f k a b c d l p a b c d l p = some true := by
  obtain ⟨k, rfl⟩ : ∃ n, k = n + 1 := ⟨k - 1, by omega⟩
  unfold cohousingref43_Same.f
  rw [if_pos rfl, if_pos rfl, if_pos rfl, bne_self_eq_false]
  simp only [cohousingref43_Same.j0]
  rw [if_neg (by decide), sameLines_f l hl k (by omega)]
  simp only [obs]
  unfold cohousingref06_Same.f
  rw [if_pos trivial, if_pos rfl, show ((0 : Int)) = ((0 : Nat) : Int) from rfl, same06_l0 p hp p.length 0 k (by omega) (by omega) (by omega)]
  rfl
/-- A slice's header: where its elements lie, how many, and its capacity. -/
def hdrV (s : Option Addr × Nat × Nat) : Value := .slice s.1 s.2.1 s.2.2
def kH : Kd (Option Addr × Nat × Nat) := Kd.scalar hdrV (fun _ => rfl)
/-- What headers say of the lists that they lead to. -/
def Heads {α : Type} (d : Kd α) (w : World) (hs : List (Option Addr × Nat × Nat)) (xs : List (List α)) : Prop := hs.length = xs.length ∧ ∀ (i : Nat) (s : (Option Addr × Nat × Nat)) (x : List α), hs[i]? = some s → xs[i]? = some x → s.2.1 = x.length ∧ x.length ≤ s.2.2 ∧ Kd.C d w s.1 x.length x
theorem Heads.below {α : Type} {d : Kd α} {w w' : World} {hs : List (Option Addr × Nat × Nat)} {xs : List (List α)} (h : Heads d w hs xs) (hb : Below w.heap.size w w') : Heads d w' hs xs :=
  ⟨h.1, fun i s x h1 h2 => ⟨(h.2 i s x h1 h2).1, (h.2 i s x h1 h2).2.1, Kd.C_below (h.2 i s x h1 h2).2.2 hb⟩⟩
open Classical in
theorem heads_of {α : Type} {e : Nat} {d : Kd α} {w : World} {A : Option Addr} {n : Nat} {xs : List (List α)} (h : Kd.C (Kd.slice e d) w A n xs) : ∃ hs, Kd.C kH w A n hs ∧ Heads d w hs xs := by
  obtain ⟨h1, h2, h3⟩ := h
  have H : ∀ j, j < xs.length → ∃ s : (Option Addr × Nat × Nat), s.2.1 = (xs[j]?.getD []).length ∧ (xs[j]?.getD []).length ≤ s.2.2 ∧ Kd.C d w s.1 (xs[j]?.getD []).length (xs[j]?.getD []) ∧ ∀ a, A = some a → w.cell? (a.add (j * 1 + 0)) = some (hdrV s) := by
    intro j hj
    obtain ⟨a, rfl, ha⟩ := h3 (by omega)
    obtain ⟨c, hc1, ⟨A', c', rfl, hle, hC⟩, hc2⟩ := ha j xs[j] (List.getElem?_eq_getElem hj)
    refine ⟨(A', xs[j].length, c'), ?_, ?_, ?_, ?_⟩
    · simp [hj]
    · simpa [hj] using hle
    · simpa [hj] using hC
    · intro a' e'
      cases e'
      exact hc2 0 _ rfl
  refine ⟨(List.range xs.length).map (fun j => if hj : j < xs.length then Classical.choose (H j hj) else (none, 0, 0)), ⟨by simpa using h1, h2, fun hn => ?_⟩, by simp, fun i s x e1 e2 => ?_⟩
  · obtain ⟨a, rfl, -⟩ := h3 hn
    refine ⟨a, rfl, fun j p hp => ?_⟩
    have hj : j < xs.length := by
      have := (List.getElem?_eq_some_iff.1 hp).1
      simpa using this
    have hpe : p = Classical.choose (H j hj) := by simpa [hj] using hp.symm
    refine ⟨[hdrV p], rfl, rfl, fun i u hu => ?_⟩
    have hs := (Classical.choose_spec (H j hj)).2.2.2 a rfl
    cases i with
    | zero =>
      obtain rfl : hdrV p = u := by simpa using hu
      rw [hpe]
      exact hs
    | succ i => simp at hu
  · obtain ⟨hi, hx⟩ := List.getElem?_eq_some_iff.1 e2
    have hse : s = Classical.choose (H i hi) := by simpa [hi] using e1.symm
    have key : ∀ s' : (Option Addr × Nat × Nat), (s'.2.1 = (xs[i]?.getD []).length ∧ (xs[i]?.getD []).length ≤ s'.2.2 ∧ Kd.C d w s'.1 (xs[i]?.getD []).length (xs[i]?.getD []) ∧ ∀ a, A = some a → w.cell? (a.add (i * 1 + 0)) = some (hdrV s')) → s'.2.1 = x.length ∧ x.length ≤ s'.2.2 ∧ Kd.C d w s'.1 x.length x := fun s' h => by
      rw [e2] at h
      exact ⟨h.1, h.2.1, h.2.2.1⟩
    rw [hse]
    exact key _ (Classical.choose_spec (H i hi))
theorem heads_to {α : Type} {e : Nat} {d : Kd α} {w : World} {A : Option Addr} {n : Nat} {hs : List (Option Addr × Nat × Nat)} {xs : List (List α)} (h : Kd.C kH w A n hs) (hh : Heads d w hs xs) : Kd.C (Kd.slice e d) w A n xs := by
  obtain ⟨h1, h2, h3⟩ := h
  refine ⟨by rw [← hh.1]; exact h1, h2, fun hn => ?_⟩
  obtain ⟨a, rfl, ha⟩ := h3 hn
  refine ⟨a, rfl, fun j p hp => ?_⟩
  have hj : j < hs.length := by rw [hh.1]; exact (List.getElem?_eq_some_iff.1 hp).1
  obtain ⟨c, hc1, hc2, hc3⟩ := ha j hs[j] (List.getElem?_eq_getElem hj)
  obtain ⟨q1, q2, q3⟩ := hh.2 j hs[j] p (List.getElem?_eq_getElem hj) hp
  refine ⟨c, hc1, ⟨hs[j].1, hs[j].2.2, ?_, q2, q3⟩, hc3⟩
  rw [show c = [hdrV hs[j]] from hc2, ← q1]
  rfl
end Go.Proofs.YtkdckjafhaadiaaDoor.P
