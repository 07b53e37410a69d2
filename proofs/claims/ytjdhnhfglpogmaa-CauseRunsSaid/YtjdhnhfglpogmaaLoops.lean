/- Loops with rounds, told once: a loop that asks something of each index; a loop that carries something on. -/
import Derived.Test.YtjdhnhfglpogmaaWWords
set_option linter.unusedSimpArgs false
set_option linter.unusedVariables false
namespace Go.Proofs.Ytjdhnhfglpogmaa.P
open Go.RowKit Go.Proofs.YtjdhnhfglpogmaaW.PrintWords

theorem Ev.stepE {α : Type} {g : Nat → Option α} {r : α} (f : Nat → Option α) (h : ∀ k, g (k + 1) = f k) (k : Ev f r) : Ev g r := Ev.step h k
theorem Ev.ret {α : Type} {g : Nat → Option α} {r : α} (h : ∀ k, g (k + 1) = some r) : Ev g r := ⟨1, fun k hk => by
  obtain ⟨m, rfl⟩ : ∃ m, k = m + 1 := ⟨k - 1, by omega⟩
  exact h m⟩
theorem Ev.unique {α : Type} {g : Nat → Option α} {a b : α} (h : Ev g a) (k : Ev g b) : a = b := by
  obtain ⟨K, hK⟩ := h
  obtain ⟨L, hL⟩ := k
  have h1 := hK (max K L) (Nat.le_max_left _ _)
  have h2 := hL (max K L) (Nat.le_max_right _ _)
  rw [h1] at h2
  exact Option.some.inj h2
theorem Ev.and_now {α : Type} {g : Nat → Option α} {r : α} (h : ∃ K, ∀ k, K ≤ k → g k = some r) : Ev g r := h
theorem range_drop {n i : Nat} (h : i < n) : (List.range n).drop i = i :: (List.range n).drop (i + 1) := by
  rw [List.drop_eq_getElem_cons (by simpa using h)]
  simp
/-- A loop that leaves at the first index where p fails. -/
theorem loop_all {α : Type} {g : Nat → Nat → Option α} {n : Nat} {p : Nat → Bool} {bad R : α} (hbad : ∀ i, i < n → p i = false → Ev (fun k => g k i) bad)
    (hgo : ∀ i, i < n → p i = true → ∀ r, Ev (fun k => g k (i + 1)) r → Ev (fun k => g k i) r) (hend : Ev (fun k => g k n) R) : ∀ d i, n - i = d → i ≤ n → Ev (fun k => g k i) (if ((List.range n).drop i).all p then R else bad)
  | 0, i, hd, hi => by
    obtain rfl : i = n := by omega
    rw [List.drop_eq_nil_of_le (by simp)]
    exact hend
  | d + 1, i, hd, hi => by
    rw [range_drop (show i < n by omega), List.all_cons]
    cases hp : p i with
    | false => exact hbad i (by omega) hp
    | true => exact hgo i (by omega) hp _ (loop_all hbad hgo hend d (i + 1) (by omega) (by omega))
theorem loop_all0 {α : Type} {g : Nat → Nat → Option α} {n : Nat} {p : Nat → Bool} {bad R : α} (hbad : ∀ i, i < n → p i = false → Ev (fun k => g k i) bad)
    (hgo : ∀ i, i < n → p i = true → ∀ r, Ev (fun k => g k (i + 1)) r → Ev (fun k => g k i) r) (hend : Ev (fun k => g k n) R) : Ev (fun k => g k 0) (if (List.range n).all p then R else bad) :=
  loop_all hbad hgo hend n 0 (by omega) (by omega)
/-- What a loop carries on, after i rounds. -/
def foldN {σ : Type} (step : Nat → σ → σ) (s : σ) : Nat → σ
  | 0 => s
  | i + 1 => step i (foldN step s i)
theorem loop_fold {α σ : Type} {g : Nat → Nat → σ → Option α} {n : Nat} (step : Nat → σ → σ) (s0 : σ) (r : α)
    (hgo : ∀ i, i < n → ∀ r, Ev (fun k => g k (i + 1) (step i (foldN step s0 i))) r → Ev (fun k => g k i (foldN step s0 i)) r) (hend : Ev (fun k => g k n (foldN step s0 n)) r) : ∀ d i, n - i = d → i ≤ n → Ev (fun k => g k i (foldN step s0 i)) r
  | 0, i, hd, hi => by
    obtain rfl : i = n := by omega
    exact hend
  | d + 1, i, hd, hi => hgo i (by omega) _ (loop_fold step s0 r hgo hend d (i + 1) (by omega) (by omega))
theorem loop_fold0 {α σ : Type} {g : Nat → Nat → σ → Option α} {n : Nat} (step : Nat → σ → σ) (s0 : σ) (r : α)
    (hgo : ∀ i, i < n → ∀ r, Ev (fun k => g k (i + 1) (step i (foldN step s0 i))) r → Ev (fun k => g k i (foldN step s0 i)) r) (hend : Ev (fun k => g k n (foldN step s0 n)) r) : Ev (fun k => g k 0 s0) r :=
  loop_fold step s0 r hgo hend n 0 (by omega) (by omega)
theorem wrapN (i : Nat) (h : i < 9223372036854775807) : wrap64 ((i : Int) + 1) = ((i + 1 : Nat) : Int) := by unfold wrap64; omega
theorem wrapM (i : Nat) (h : i < 9223372036854775807) (h0 : 0 < i) : wrap64 ((i : Int) - 1) = ((i - 1 : Nat) : Int) := by unfold wrap64; omega
theorem Ev.map_some {α : Type} {g f : Nat → Option α} {r : α} (h : ∀ k, g k = f k) (k : Ev f r) : Ev g r := Ev.congr h k
theorem Ev.bind' {α β : Type} {g : Nat → Option α} {f : Nat → α → Option β} {a : α} {r : β} (h : Ev g a) (k : Ev (fun n => f n a) r) : Ev (fun n => (g n).bind (f n)) r := Ev.bind h k
end Go.Proofs.Ytjdhnhfglpogmaa.P
