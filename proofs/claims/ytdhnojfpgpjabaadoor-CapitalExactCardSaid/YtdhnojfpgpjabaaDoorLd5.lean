/- Chapter 32: CapitalExact answers true. -/
import Derived.Test.YtdhnojfpgpjabaaDoorPcC
import Derived.Test.YtdhnojfpgpjabaaDoorPx18
set_option linter.unusedSimpArgs false
set_option linter.unusedVariables false
namespace Go.Proofs.YtdhnojfpgpjabaaDoor.P
open Go Go.RowKit Go.Proofs.YtdhnojfpgpjabaaDoorW.PrintWords Go.Proofs.YtdhnojfpgpjabaaDoorW.PrintLast Go.Proofs.YtdhnojfpgpjabaaDoorW.PrintMore

/-- The exact sum from a day on. -/
def smL (day : Int) (p r from_ : Int) : List S36 → Int
  | [] => p * r * (day - from_)
  | x :: l => if day < x.f1 then p * r * (day - from_) else p * r * (x.f1 - from_) + smL day (nP p x) (if x.f0 = 3 then x.f2 else r) x.f1 l
/-- How many steps cut. -/
def ctL (day : Int) : List S36 → Nat
  | [] => 0
  | x :: l => if day < x.f1 then 0 else (if cutB x = true then 1 else 0) + ctL day l
theorem rnd_err (x : Nat) : 2 * (((rnd x : Nat) : Int) * 3650000 - (x : Int)) ≤ 3650000 ∧ -3650000 ≤ 2 * (((rnd x : Nat) : Int) * 3650000 - (x : Int)) := by
  unfold rnd
  omega
theorem it_err {b : Bk} (hb : BkOk b) {n : Int} (hn : 0 ≤ n) : 2 * (((itI (n, b) : Nat) : Int) * 3650000 - b.paid * b.rate * n) ≤ 3650000 ∧ -3650000 ≤ 2 * (((itI (n, b) : Nat) : Int) * 3650000 - b.paid * b.rate * n) := by
  have h := rnd_err (b.paid.toNat * (b.rate * n).toNat)
  have e : ((b.paid.toNat * (b.rate * n).toNat : Nat) : Int) = b.paid * b.rate * n := by
    rw [Int.natCast_mul, Int.toNat_of_nonneg hb.p0, Int.toNat_of_nonneg (Int.mul_nonneg hb.r0 hn), Int.mul_assoc]
  rw [e] at h
  exact h
theorem span (u a b c : Int) : u * (a - b) + u * (b - c) = u * (a - c) := by
  rw [← Int.mul_add]
  congr 1
  omega
theorem exact_err (day : Int) : ∀ (l : List S36) (b : Bk) (from_ from2 last : Int), BkOk b → GoodX b last l → 0 ≤ from_ → from_ ≤ last → from_ ≤ day →
    2 * (((sumI (strX day b from_ l) : Nat) : Int) * 3650000 - (smL day b.paid b.rate from2 l + b.paid * b.rate * (from2 - from_))) ≤ ((ctL day l + 1 : Nat) : Int) * 3650000 ∧
    -(((ctL day l + 1 : Nat) : Int) * 3650000) ≤ 2 * (((sumI (strX day b from_ l) : Nat) : Int) * 3650000 - (smL day b.paid b.rate from2 l + b.paid * b.rate * (from2 - from_)))
  | [], b, from_, from2, last, hb, hg, h0, h1, h2 => by
    have h := it_err hb (show 0 ≤ day - from_ by omega)
    rw [strX, sumI_one, smL, span, ctL]
    omega
  | x :: r, b, from_, from2, last, hb, hg, h0, h1, h2 => by
    obtain ⟨hs, hm, hr⟩ := goodX_cons.1 hg
    obtain ⟨d1, d2⟩ := step_days hs
    have ht := takeX_ok hb hs hm
    rw [strX, smL, ctL]
    by_cases hx : day < x.f1
    · have h := it_err hb (show 0 ≤ day - from_ by omega)
      rw [if_pos hx, if_pos hx, if_pos hx, sumI_one, span]
      omega
    · rw [if_neg hx, if_neg hx, if_neg hx]
      by_cases hc : cutB x = true
      · rw [if_pos hc, if_pos hc, sumI_cons]
        have h := it_err hb (show 0 ≤ x.f1 - from_ by omega)
        have ih := exact_err day r (takeX b x) x.f1 x.f1 x.f1 ht hr (by omega) (by omega) (by omega)
        rw [Int.sub_self, Int.mul_zero, Int.add_zero] at ih
        have e : b.paid * b.rate * (x.f1 - from2) + smL day (nP b.paid x) (if x.f0 = 3 then x.f2 else b.rate) x.f1 r + b.paid * b.rate * (from2 - from_) = b.paid * b.rate * (x.f1 - from_) + smL day (takeX b x).paid (takeX b x).rate x.f1 r := by
          rw [← span (b.paid * b.rate) x.f1 from2 from_]
          show _ = _ + smL day (nP b.paid x) (if x.f0 = 3 then x.f2 else b.rate) x.f1 r
          omega
        rw [e]
        generalize b.paid * b.rate * (x.f1 - from_) = u at *
        generalize smL day (takeX b x).paid (takeX b x).rate x.f1 r = v at *
        generalize itI (x.f1 - from_, b) = i1 at *
        generalize sumI (strX day (takeX b x) x.f1 r) = i2 at *
        generalize ctL day r = c at *
        omega
      · rw [if_neg hc, if_neg hc]
        obtain ⟨n1, n2⟩ := noncut (b := b) hs hc
        have ih := exact_err day r (takeX b x) from_ x.f1 x.f1 ht hr h0 (by omega) h2
        have e : b.paid * b.rate * (x.f1 - from2) + smL day (nP b.paid x) (if x.f0 = 3 then x.f2 else b.rate) x.f1 r + b.paid * b.rate * (from2 - from_) = smL day (takeX b x).paid (takeX b x).rate x.f1 r + (takeX b x).paid * (takeX b x).rate * (x.f1 - from_) := by
          rw [n1, n2, ← span (b.paid * b.rate) x.f1 from2 from_]
          have e2 : smL day (nP b.paid x) (if x.f0 = 3 then x.f2 else b.rate) x.f1 r = smL day b.paid b.rate x.f1 r := by
            rw [show nP b.paid x = b.paid from n1, show (if x.f0 = 3 then x.f2 else b.rate) = b.rate from n2]
          rw [e2]
          omega
        rw [e, Nat.zero_add]
        exact ih
theorem paid_le (day : Int) : ∀ (l : List S36) (b : Bk) (last : Int), GoodX b last l → b.paid ≤ (endX day b l).paid
  | [], b, last, hg => Int.le_refl _
  | x :: r, b, last, hg => by
    obtain ⟨hs, hm, hr⟩ := goodX_cons.1 hg
    rw [endX]
    split
    · exact Int.le_refl _
    · have ih := paid_le day r (takeX b x) x.f1 hr
      have hk := step_kind hs
      have : b.paid ≤ (takeX b x).paid := by
        show b.paid ≤ nP b.paid x
        unfold nP
        split <;> omega
      omega
theorem ct_len (day : Int) : ∀ (l : List S36), ctL day l ≤ l.length
  | [] => Nat.le_refl _
  | x :: r => by
    have ih := ct_len day r
    rw [ctL, List.length_cons]
    split
    · omega
    · split <;> omega
/-- A stretch's part of the sum is not too great. -/
theorem part_bounds {b : Bk} (hb : BkOk b) (hp : b.paid ≤ 1000000) {n : Int} (h0 : 0 ≤ n) (h1 : n ≤ 36524) : wrap64 (wrap64 (b.paid * b.rate) * wrap64 n) = b.paid * b.rate * n ∧ 0 ≤ b.paid * b.rate * n ∧ b.paid * b.rate * n ≤ 10000000000 * n := by
  have u0 : 0 ≤ b.paid * b.rate := Int.mul_nonneg hb.p0 hb.r0
  have u1 : b.paid * b.rate ≤ 1000000 * 10000 := Int.mul_le_mul hp hb.r1 hb.r0 (by decide)
  generalize b.paid * b.rate = u at *
  have v0 : 0 ≤ u * n := Int.mul_nonneg u0 h0
  have v1 : u * n ≤ 1000000 * 10000 * n := Int.mul_le_mul_of_nonneg_right u1 h0
  rw [IntWalk.wrap64_in u (by omega), IntWalk.wrap64_in n (by omega), IntWalk.wrap64_in _ (by omega)]
  exact ⟨rfl, v0, by omega⟩
theorem exact_end (l : List S36) (a2 : Int) (h2 : 0 ≤ a2 ∧ a2 ≤ 65535) (b : Bk) (hb : BkOk b) (hp : b.paid ≤ 1000000) (E from_ I : Int) (s : Nat) (i : Nat) (S1 S2 S4 S5 : Int) (f0 : 0 ≤ from_) (f1 : from_ ≤ a2 % 36525) (e0 : 0 ≤ E) (e1 : E ≤ 10000000000 * from_) (hs : s ≤ 60) (i0 : 0 ≤ I) (i1 : I ≤ 1000000000)
    (c1 : 2 * (I * 3650000 - (E + b.paid * b.rate * (a2 % 36525 - from_))) ≤ (s : Int) * 3650000) (c2 : -((s : Int) * 3650000) ≤ 2 * (I * 3650000 - (E + b.paid * b.rate * (a2 % 36525 - from_)))) :
    Ev (fun k => cohousinglaw32_CapitalExact.j3 k l a2 true E b.paid b.rate from_ s i false S1 S2 I S4 S5) true := by
  obtain ⟨w1, w2, w3⟩ := part_bounds hb hp (show 0 ≤ a2 % 36525 - from_ by omega) (by omega)
  refine Ev.ret fun k => ?_
  simp only [cohousinglaw32_CapitalExact.j3]
  rw [if_neg (by simp), on_f a2 h2.1 h2.2, obs, w1]
  simp only [if_true]
  generalize b.paid * b.rate * (a2 % 36525 - from_) = u at *
  rw [IntWalk.wrap64_in (E + u) (by omega), IntWalk.wrap64_in (I * 3650000) (by omega), IntWalk.wrap64_in (I * 3650000 - (E + u)) (by omega), IntWalk.wrap64_in ((s : Int) * 3650000) (by omega), IntWalk.wrap64_in (2 * (I * 3650000 - (E + u))) (by omega), IntWalk.wrap64_in ((-2) * (I * 3650000 - (E + u))) (by omega), if_pos c1, decide_eq_true (by omega)]
set_option maxHeartbeats 1000000 in
theorem exact_loop (l : List S36) (a2 : Int) (hlen : l.length ≤ 20) (h2 : 0 ≤ a2 ∧ a2 ≤ 65535) (I S1 S2 S4 S5 : Int) (i0 : 0 ≤ I) (i1 : I ≤ 1000000000) : ∀ (d : Nat), ∀ (i : Nat) (b : Bk) (E from_ last : Int) (s : Nat), l.length - i = d → i ≤ l.length → BkOk b → GoodX b last (l.drop i) → (endX (a2 % 36525) b (l.drop i)).paid ≤ 1000000 →
    0 ≤ from_ → from_ ≤ last → from_ ≤ a2 % 36525 → 0 ≤ E → E ≤ 10000000000 * from_ → s ≤ i + 1 →
    2 * (I * 3650000 - (E + smL (a2 % 36525) b.paid b.rate from_ (l.drop i))) ≤ ((s + ctL (a2 % 36525) (l.drop i) : Nat) : Int) * 3650000 → -(((s + ctL (a2 % 36525) (l.drop i) : Nat) : Int) * 3650000) ≤ 2 * (I * 3650000 - (E + smL (a2 % 36525) b.paid b.rate from_ (l.drop i))) →
    Ev (fun k => cohousinglaw32_CapitalExact.l0 k l a2 true E b.paid b.rate from_ s i S1 S2 I S4 S5) true := by
  intro d
  induction d with
  | zero =>
    intro i b E from_ last s hd hi hb hg hp f0 f1 f2 e0 e1 hs c1 c2
    obtain rfl : i = l.length := by omega
    rw [List.drop_length] at hp c1 c2
    rw [smL, ctL, Nat.add_zero] at c1 c2
    refine Ev.step (fun k => ?_) (exact_end l a2 h2 b hb hp E from_ I s l.length S1 S2 S4 S5 f0 f2 e0 e1 (by omega) i0 i1 c1 c2)
    simp only [cohousinglaw32_CapitalExact.l0]
    rw [if_neg (by omega)]
  | succ d ihd =>
    intro i b E from_ last s hd hi hb hg hp f0 f1 f2 e0 e1 hs c1 c2
    have hlt : i < l.length := by omega
    have hrd := rd36 hlt
    have ih := ihd (i + 1)
    clear ihd
    have hple := paid_le (a2 % 36525) (l.drop i) b last hg
    rw [List.drop_eq_getElem_cons hlt] at hg hp c1 c2
    generalize l[i] = x at *
    obtain ⟨hst, hm, hr⟩ := goodX_cons.1 hg
    obtain ⟨d1, d2⟩ := step_days hst
    rw [endX] at hp
    rw [smL, ctL] at c1 c2
    by_cases hx : a2 % 36525 < x.f1
    · rw [if_pos hx] at hp
      rw [if_pos hx, if_pos hx, Nat.add_zero] at c1 c2
      refine Ev.step (fun k => ?_) (exact_end l a2 h2 b hb hp E from_ I s i S1 S2 S4 S5 f0 f2 e0 e1 (by omega) i0 i1 c1 c2)
      simp only [cohousinglaw32_CapitalExact.l0]
      rw [if_pos (by omega), if_pos (by omega), on_f a2 h2.1 h2.2, obs, hrd, decide_eq_false (by omega)]
    · rw [if_neg hx] at hp
      rw [if_neg hx, if_neg hx] at c1 c2
      have ht := takeX_ok hb hst hm
      have hpb : b.paid ≤ 1000000 := by
        have hq := paid_le (a2 % 36525) (l.drop (i + 1)) (takeX b x) x.f1 hr
        have hk := step_kind hst
        have : b.paid ≤ (takeX b x).paid := by
          show b.paid ≤ nP b.paid x
          unfold nP
          split <;> omega
        omega
      obtain ⟨w1, w2, w3⟩ := part_bounds hb hpb (show 0 ≤ x.f1 - from_ by omega) (by omega)
      have W1 := Lib.hid w1
      clear w1
      obtain ⟨T, hT⟩ : ∃ T, smL (a2 % 36525) (nP b.paid x) (if x.f0 = 3 then x.f2 else b.rate) x.f1 (l.drop (i + 1)) = T := ⟨_, rfl⟩
      have hT2 : smL (a2 % 36525) (takeX b x).paid (takeX b x).rate x.f1 (l.drop (i + 1)) = T := hT
      obtain ⟨C, hC⟩ : ∃ C, ctL (a2 % 36525) (l.drop (i + 1)) = C := ⟨_, rfl⟩
      obtain ⟨g, hgc⟩ : ∃ g : Nat, (if cutB x = true then 1 else 0) = g := ⟨_, rfl⟩
      have hg1 : g ≤ 1 := by rw [← hgc]; split <;> omega
      rw [hT, hC, hgc] at c1 c2
      have ih2 := ih (takeX b x) (E + b.paid * b.rate * (x.f1 - from_)) x.f1 x.f1 (s + g) (by omega) (by omega) ht hr hp (by omega) (by omega) (by omega) (by omega) (by omega) (by omega)
        (by rw [hT2, hC, Int.add_assoc, Nat.add_assoc]; exact c1) (by rw [hT2, hC, Int.add_assoc, Nat.add_assoc]; exact c2)
      clear hT hT2 hC
      clear ih hple c1 c2 hp hm hr hg ht
      have HW := Lib.hid (wrapN i (by omega))
      have HW2 := Lib.hid (wrapN s (by omega))
      have hp0 := hb.p0
      refine Ev.stepE (fun k => cohousinglaw32_CapitalExact.j3 k l a2 true E b.paid b.rate from_ s i true S1 S2 I S4 S5) (fun k => ?_) (Ev.step (fun k => ?_) ih2)
      · simp only [cohousinglaw32_CapitalExact.l0]
        rw [if_pos (by omega), if_pos (by omega), on_f a2 h2.1 h2.2, obs, hrd, decide_eq_true (by omega)]
      · clear ih2
        simp only [cohousinglaw32_CapitalExact.j3]
        rw [if_pos trivial, if_pos (by omega), if_pos (by omega), hrd, W1.out, HW.out, HW2.out]
        clear W1 HW HW2
        generalize b.paid * b.rate * (x.f1 - from_) = u at *
        rw [IntWalk.wrap64_in (E + u) (by omega)]
        by_cases q1 : x.f0 = 1
        · have hk := step_kind hst
          rw [if_pos q1, IntWalk.wrap64_in _ (by omega), show (takeX b x).paid = b.paid + x.f2 by simp [takeX, nP, q1], show (takeX b x).rate = b.rate by simp [takeX, q1], show g = 1 by rw [← hgc, if_pos (show cutB x = true by simp [cutB, q1])]]
        · by_cases q3 : x.f0 = 3
          · rw [if_neg q1, if_pos q3, show (takeX b x).paid = b.paid by simp [takeX, nP, q1], show (takeX b x).rate = x.f2 by simp [takeX, q3], show g = 1 by rw [← hgc, if_pos (show cutB x = true by simp [cutB, q3])]]
          · rw [if_neg q1, if_neg q3, show (takeX b x).paid = b.paid by simp [takeX, nP, q1], show (takeX b x).rate = b.rate by simp [takeX, q3], show g = 0 by rw [← hgc, if_neg (show ¬ cutB x = true by simp [cutB, q1, q3])]]
            rfl
theorem exact_ev (a0 : Int) (l : List S36) (a2 : Int) (hl : l.length ≤ 9223372036854775807) (h0 : 0 ≤ a0 ∧ a0 ≤ 65535) (h2 : 0 ≤ a2 ∧ a2 ≤ 65535) : Ev (fun k => cohousinglaw32_CapitalExact.f k a0 l a2) true := by
  have hj0 : Ev (fun k => cohousinglaw32_CapitalExact.j0 k a0 l a2 true true) true := Ev.ret fun k => by
    simp only [cohousinglaw32_CapitalExact.j0]
    rw [if_pos trivial]
  have hj1 : ∀ S1 S2 S3 S4 S5, Ev (fun k => cohousinglaw32_CapitalExact.j1 k l a2 true true S1 S2 S3 S4 S5) true := fun S1 S2 S3 S4 S5 => Ev.ret fun k => by
    simp only [cohousinglaw32_CapitalExact.j1]
    rw [if_pos trivial]
  refine Ev.bind head_ev ?_
  by_cases h20 : l.length > 20
  · refine Ev.congr (fun k => ?_) hj0
    rw [if_pos (by omega)]
  · refine Ev.congr (f := fun k => (cohousingref32_Valid.f k l).bind fun t314 => (cohousinglaw32_CapitalExact.j0 k a0 l a2 true (!t314))) (fun k => ?_) (Ev.bind (refvalid_ev l hl) ?_)
    · rw [if_neg (by omega)]
    · cases hv : validV l with
      | false => exact hj0
      | true =>
        obtain ⟨hg, hlen⟩ := valid_good hv
        have hs := State_ev (1 + a0 % 1000) l (a2 % 36525) hv (by omega) (by omega) (by omega) (by omega)
        refine Ev.stepE (fun k => (capital_State.f k (1 + a0 % 1000) l (a2 % 36525)).bind fun bt317 => (if bt317.2.2.2.2.2 = 0 then (cohousinglaw32_CapitalExact.j1 k l a2 true (decide (bt317.1 > 1000000)) bt317.1 bt317.2.1 bt317.2.2.1 bt317.2.2.2.1 bt317.2.2.2.2.1) else (cohousinglaw32_CapitalExact.j1 k l a2 true true bt317.1 bt317.2.1 bt317.2.2.1 bt317.2.2.2.1 bt317.2.2.2.2.1))) (fun k => ?_) (Ev.bind hs ?_)
        · simp only [cohousinglaw32_CapitalExact.j0]
          rw [if_neg (by simp), count_f a0 h0.1 h0.2, on_f a2 h2.1 h2.2]
          simp only [obs]
        · by_cases e1 : (stateV (1 + a0 % 1000) l (a2 % 36525)).2.2.2.2.2 = 0
          · obtain ⟨hi, _, hst⟩ := stateV_yes e1
            rw [hst]
            by_cases hp : (accV (1 + a0 % 1000) l (a2 % 36525)).paid > 1000000
            · refine Ev.congr (f := fun k => cohousinglaw32_CapitalExact.j1 k l a2 true true (accV (1 + a0 % 1000) l (a2 % 36525)).paid (accV (1 + a0 % 1000) l (a2 % 36525)).value (accV (1 + a0 % 1000) l (a2 % 36525)).interest (accV (1 + a0 % 1000) l (a2 % 36525)).lien (dueV (accV (1 + a0 % 1000) l (a2 % 36525)))) (fun k => ?_) (hj1 _ _ _ _ _)
              rw [if_pos rfl, decide_eq_true hp]
            · have he := exact_err (a2 % 36525) l bk1 0 0 0 bk1_ok hg (by omega) (by omega) (by omega)
              rw [Int.sub_self, Int.mul_zero, Int.add_zero] at he
              have hloop := exact_loop l a2 (by omega) h2 (accV (1 + a0 % 1000) l (a2 % 36525)).interest (accV (1 + a0 % 1000) l (a2 % 36525)).paid (accV (1 + a0 % 1000) l (a2 % 36525)).value (accV (1 + a0 % 1000) l (a2 % 36525)).lien (dueV (accV (1 + a0 % 1000) l (a2 % 36525)))
                (by show (0 : Int) ≤ ((intV l (a2 % 36525) : Nat) : Int); omega) (by show ((intV l (a2 % 36525) : Nat) : Int) ≤ 1000000000; omega) _ 0 bk1 0 0 0 1 rfl (by omega) bk1_ok hg (by have h : ¬ (endX (a2 % 36525) bk1 l).paid > 1000000 := hp; rw [List.drop_zero]; omega) (by omega) (by omega) (by omega) (by omega) (by omega) (by omega)
                (by rw [Int.zero_add, List.drop_zero, Nat.add_comm]; exact he.1) (by rw [Int.zero_add, List.drop_zero, Nat.add_comm]; exact he.2)
              refine Ev.congr (f := fun k => cohousinglaw32_CapitalExact.j1 k l a2 true false (accV (1 + a0 % 1000) l (a2 % 36525)).paid (accV (1 + a0 % 1000) l (a2 % 36525)).value (accV (1 + a0 % 1000) l (a2 % 36525)).interest (accV (1 + a0 % 1000) l (a2 % 36525)).lien (dueV (accV (1 + a0 % 1000) l (a2 % 36525)))) (fun k => ?_) (Ev.step (fun k => ?_) hloop)
              · rw [if_pos rfl, decide_eq_false hp]
              · simp only [cohousinglaw32_CapitalExact.j1]
                rw [if_neg (by simp)]
                rfl
          · refine Ev.congr (f := fun k => cohousinglaw32_CapitalExact.j1 k l a2 true true (stateV (1 + a0 % 1000) l (a2 % 36525)).1 (stateV (1 + a0 % 1000) l (a2 % 36525)).2.1 (stateV (1 + a0 % 1000) l (a2 % 36525)).2.2.1 (stateV (1 + a0 % 1000) l (a2 % 36525)).2.2.2.1 (stateV (1 + a0 % 1000) l (a2 % 36525)).2.2.2.2.1) (fun k => ?_) (hj1 _ _ _ _ _)
            rw [if_neg e1]
end Go.Proofs.YtdhnojfpgpjabaaDoor.P
