/- ballot.Asked. -/
import Derived.Test.YtkaebblbmoolaaaDoorXaskR
import Derived.Test.YtkaebblbmoolaaaDoorXexps
import Derived.Test.YtkaebblbmoolaaaDoorXints
import Derived.Laws.EntriesVeiled
set_option linter.unusedSimpArgs false
set_option linter.unusedVariables false
namespace Go.Proofs.YtkaebblbmoolaaaDoor.P
open Go Go.RowKit Go.Proofs.YtkaebblbmoolaaaDoorW.PrintWords Go.Proofs.YtkaebblbmoolaaaDoorW.PrintLast Go.Proofs.YtkaebblbmoolaaaDoorW.PrintMore
attribute [local go_sem ↓] Go.wp_at_zero Go.wp_at_succ

/-- A halt in a walk, to go on by hand. -/
structure Stop (p : Prop) : Prop where
  out : p
/-- A slice of encrypted votes, where it lies. -/
structure Arg where
  A : Option Addr
  c : Nat
  l : List S23
def Arg.v (x : Arg) : Value := .slice x.A x.l.length x.c
structure Arg.Ok (w : World) (x : Arg) : Prop where
  r : Kd.C k23 w x.A x.l.length x.l
  c : x.l.length ≤ x.c
theorem sumB_range (l : List Int) : 0 ≤ sumB l ∧ sumB l < 18446744073709551616 := by
  have key : ∀ (l : List Int) (h : Int), 0 ≤ h ∧ h < 18446744073709551616 → 0 ≤ l.foldl stepB h ∧ l.foldl stepB h < 18446744073709551616 := by
    intro l
    induction l with
    | nil => exact fun h hh => hh
    | cons x l ih =>
      intro h hh
      refine ih _ ?_
      unfold stepB
      generalize Go.bits .xor .u64 h (IntKind.u64.wrap x) * 1099511628211 = z
      simp [IntKind.wrap, IntKind.bits, IntKind.signed]
      omega
  exact key l _ (by decide)
theorem and1u (x : Int) (h0 : 0 ≤ x) (h1 : x < 18446744073709551616) : Go.bits .and .u64 x 1 = x % 2 := by
  obtain ⟨n, rfl⟩ := Int.eq_ofNat_of_zero_le h0
  have e : (BitVec.ofInt IntKind.u64.bits (n : Int) &&& BitVec.ofInt IntKind.u64.bits 1).toNat = n % 2 := by
    rw [BitVec.toNat_and, BitVec.toNat_ofInt, BitVec.toNat_ofInt]
    show ((n : Int) % 18446744073709551616).toNat &&& 1 = n % 2
    rw [show ((n : Int) % 18446744073709551616).toNat = n from by omega, Nat.and_one_is_mod]
  unfold Go.bits
  simp only [e]
  simp [IntKind.wrap, IntKind.bits, IntKind.signed]
  omega
theorem bit_at (n : Int) (j : Nat) (h0 : 0 ≤ n) (h1 : n < 18446744073709551616) (hj : j < 64) : (Go.bits .and .u64 (n / 2 ^ min j 64) 1 == 1) = (n / 2 ^ j % 2 == 1) := by
  rw [Nat.min_eq_left (by omega)]
  have hp : (0 : Int) < 2 ^ j := Int.pow_pos (by decide)
  have h2 : 0 ≤ n / 2 ^ j := Int.ediv_nonneg h0 (Int.le_of_lt hp)
  have h3 : n / 2 ^ j ≤ n := Int.ediv_le_self _ h0
  rw [and1u _ h2 (by omega)]
theorem set_bits (b : Bool) (l : List Bool) (j n : Nat) (hl : l.length = j) (hj : j < n) : (l ++ List.replicate (n - j) false).set j b = l ++ [b] ++ List.replicate (n - (j + 1)) false := by
  rw [show n - j = (n - (j + 1)) + 1 from by omega, List.replicate_succ, List.set_append_right _ _ (by omega), hl, Nat.sub_self, List.set_cons_zero, List.append_assoc]
  rfl
def okL (n : Nat) (l : List S23) : Bool := ciphsB l && decide (l.length = n)
theorem idx3 (A0 A1 A2 : Option Addr) (n0 c0 n1 c1 n2 c2 : Nat) (W : World) :
    (Instr.index 69 (.agg #[.slice A0 n0 c0, .slice A1 n1 c1, .slice A2 n2 c2]) (.int .i64 0)).run Tryd.prog W = .ok (.slice A0 n0 c0) W ∧
    (Instr.index 69 (.agg #[.slice A0 n0 c0, .slice A1 n1 c1, .slice A2 n2 c2]) (.int .i64 1)).run Tryd.prog W = .ok (.slice A1 n1 c1) W ∧
    (Instr.index 69 (.agg #[.slice A0 n0 c0, .slice A1 n1 c1, .slice A2 n2 c2]) (.int .i64 2)).run Tryd.prog W = .ok (.slice A2 n2 c2) W := by
  refine ⟨?_, ?_, ?_⟩ <;> kernel_rfl
/-- The k-th of three lists. -/
def nth3 (l0 l1 l2 : List S23) : Nat → List S23
  | 0 => l0
  | 1 => l1
  | _ => l2
/-- The numbers, when k lists were taken. -/
def preN (n : Int) (l0 l1 l2 : List S23) : Nat → List Int
  | 0 => [n]
  | k + 1 => preN n l0 l1 l2 k ++ flatC (nth3 l0 l1 l2 k)
theorem preN_3 (l0 l1 l2 : List S23) : preN (l0.length : Int) l0 l1 l2 3 = askNums l0 l1 l2 := by
  simp [preN, askNums, nth3]
/-- The lists ahead of the k-th are encrypted votes, n of them. -/
def okTo (n : Nat) (l0 l1 l2 : List S23) (k : Nat) : Prop := ∀ j, j < k → okL n (nth3 l0 l1 l2 j) = true
theorem okL_len {n : Nat} {l : List S23} (h : okL n l = true) : l.length = n ∧ (1 ≤ l.length ∧ l.length ≤ 64) := by
  simp only [okL, ciphsB, Bool.and_eq_true, decide_eq_true_eq] at h
  omega
theorem preN_len (n : Nat) (l0 l1 l2 : List S23) : ∀ k, okTo n l0 l1 l2 k → (preN n l0 l1 l2 k).length ≤ 1 + 128 * k
  | 0, _ => by simp [preN]
  | k + 1, h => by
    have ih := preN_len n l0 l1 l2 k (fun j hj => h j (by omega))
    have h1 := (okL_len (h k (by omega))).2.2
    have h2 := flatC_len (nth3 l0 l1 l2 k)
    rw [preN, List.length_append]
    omega
theorem ciphs_ok {l : List S23} (h : ciphsB l = true) : ∀ x ∈ flatC l, okInt x = true := by
  simp only [ciphsB, Bool.and_eq_true, List.all_eq_true] at h
  have h2 := h.2.2
  clear h
  induction l with
  | nil => exact fun x hx => by cases hx
  | cons y l ih =>
    intro x hx
    have hy := h2 y (by simp)
    simp only [ciphB, Bool.and_eq_true] at hy
    have q0 := memB_lt hy.1
    have q1 := memB_lt hy.2
    rcases List.mem_cons.1 hx with rfl | hx
    · simp only [okInt, Bool.and_eq_true, decide_eq_true_eq]; omega
    · rcases List.mem_cons.1 hx with rfl | hx
      · simp only [okInt, Bool.and_eq_true, decide_eq_true_eq]; omega
      · exact ih (fun z hz => h2 z (by simp [hz])) x hx
theorem askNums_ok {l0 l1 l2 : List S23} (h0 : ciphsB l0 = true) (h1 : ciphsB l1 = true) (h2 : ciphsB l2 = true) (hl : l0.length ≤ 64) : ∀ x ∈ askNums l0 l1 l2, okInt x = true := by
  intro x hx
  simp only [askNums, List.mem_append, List.mem_cons] at hx
  rcases hx with ((rfl | hx) | hx) | hx
  · simp only [okInt, Bool.and_eq_true, decide_eq_true_eq]; omega
  · exact ciphs_ok h0 x hx
  · exact ciphs_ok h1 x hx
  · exact ciphs_ok h2 x hx
def askV (l0 l1 l2 : List S23) : List Bool × Int :=
  if okL l0.length l0 && (okL l0.length l1 && okL l0.length l2) then (bitsL l0.length (sumB (txt (askNums l0 l1 l2))), 0) else ([], 1)
def ballot_Asked.f (l0 : List (S23)) (l1 : List (S23)) (l2 : List (S23)) : Option (List Bool × Int) := some (askV l0 l1 l2)
set_option maxRecDepth 100000 in
set_option maxHeartbeats 4000000 in
theorem ballot_Asked.calls (A0 : Option Addr) (c0 : Nat) (l0 : List (S23)) (A1 : Option Addr) (c1 : Nat) (l1 : List (S23)) (A2 : Option Addr) (c2 : Nat) (l2 : List (S23)) (r1 : List Bool) (r2 : Int) (w : World) (hr0 : Kd.C k23 w A0 l0.length l0) (hc0 : l0.length ≤ c0) (hr1 : Kd.C k23 w A1 l1.length l1) (hc1 : l1.length ≤ c1) (hr2 : Kd.C k23 w A2 l2.length l2) (hc2 : l2.length ≤ c2) (hT : TabOk w) (h : ballot_Asked.f l0 l1 l2 = some (r1, r2)) :
    Calls Tryd.prog 14 #[.slice A0 l0.length c0, .slice A1 l1.length c1, .slice A2 l2.length c2] w fun e w' => ∃ v0_ : Value, e = .returned (.tuple #[v0_, .int .i64 r2]) ∧ Kd.R Kd.bool 4 w' w.heap.size (fun _ => True) v0_ r1 ∧ Below w.heap.size w w' := by
  have HRES := Lib.hid (Option.some.inj h)
  have HT := Lib.hid hT
  have HIX := Lib.hid (fun W => idx3 A0 A1 A2 l0.length c0 l1.length c1 l2.length c2 W)
  have HR := Lib.hid (And.intro hr0 (And.intro hr1 (And.intro hr2 (And.intro hc0 (And.intro hc1 hc2)))))
  clear h hT hr0 hr1 hr2 hc0 hc1 hc2
  go_enter Tryd.func14, Tryd.ntmps14
  go_wp2_with fail
  have hs4 := World.size_alloc w (Obj.cells #[Value.int IntKind.i64 (l0.length : Int)] 3)
  have hb4 := (Below.refl w.heap.size w).alloc (Nat.le_refl _) (Obj.cells #[Value.int IntKind.i64 (l0.length : Int)] 3)
  have ho4 : Kd.R (Kd.int .i64) 3 (w.alloc (Obj.cells #[Value.int IntKind.i64 (l0.length : Int)] 3)) w.heap.size (fun _ => True) (.slice (some ⟨w.heap.size, 0, none⟩) 1 1) (preN (l0.length : Int) l0 l1 l2 0) :=
    Kd.R_of_own (enc := Value.int .i64) ⟨rfl, Or.inr ⟨w.heap.size, 1, _, rfl, Nat.le_refl _, heap_alloc_new w _, Nat.le_refl _, by unfold maxLen; simp [preN], rfl, rfl⟩⟩ (fun _ _ => trivial)
  generalize w.alloc (Obj.cells #[Value.int IntKind.i64 (l0.length : Int)] 3) = w4 at hs4 hb4 ho4 ⊢
  have H4 := Lib.hid (And.intro hb4 ho4)
  clear hs4 hb4 ho4
  go_loopw [8, 23] (fun v i wr => ∃ k : Nat, k ≤ 3 ∧ i = .int .i64 k ∧ Hid (okTo l0.length l0 l1 l2 k) ∧ Kd.R (Kd.int .i64) 3 wr w.heap.size (fun _ => True) v (preN (l0.length : Int) l0 l1 l2 k) ∧ Below w.heap.size w wr) (fun _ i _ => 3 - (intOf i).toNat)
  case atStart => exact ⟨0, by omega, rfl, by intro j hj; omega, H4.out.2, H4.out.1⟩
  case round =>
    obtain ⟨k, hk, rfl, hok, hR, hB⟩ := hrel
    have HRB := Lib.hid (And.intro hR hB)
    clear hR hB H4
    by_cases hlt : k < 3
    · obtain ⟨A, c, l, hl, hix, hr, hc⟩ : ∃ A c, ∃ l : List S23, nth3 l0 l1 l2 k = l ∧ (∀ W, (Instr.index 69 (.agg #[.slice A0 l0.length c0, .slice A1 l1.length c1, .slice A2 l2.length c2]) (.int .i64 k)).run Tryd.prog W = .ok (.slice A l.length c) W) ∧ Kd.C k23 w A l.length l ∧ l.length ≤ c := by
        obtain rfl | rfl | rfl : k = 0 ∨ k = 1 ∨ k = 2 := by omega
        · exact ⟨A0, c0, l0, rfl, fun W => (HIX.out W).1, HR.out.1, HR.out.2.2.2.1⟩
        · exact ⟨A1, c1, l1, rfl, fun W => (HIX.out W).2.1, HR.out.2.1, HR.out.2.2.2.2.1⟩
        · exact ⟨A2, c2, l2, rfl, fun W => (HIX.out W).2.2, HR.out.2.2.1, HR.out.2.2.2.2.2⟩
      have HL := Lib.hid (And.intro hl (And.intro hr hc))
      clear hl hr hc
      go_wp2_with fail
      refine (ballot_ciphers.calls A c l (ciphsB l) wr (Kd.C_below HL.out.2.1 HRB.out.2) HL.out.2.2 rfl).mono ?_
      rintro e w5 ⟨rfl, hb5⟩
      have HB5 := Lib.hid (HRB.out.2.trans (Below.mono hb5 HRB.out.2.size))
      have HR5 := Lib.hid (Kd.R_below HRB.out.1 hb5)
      clear hb5 hix
      by_cases hq : okL l0.length l = true
      · obtain ⟨q1, q2⟩ := okL_len hq
        have q2 := q2.2
        have q3 : ciphsB l = true := by simp only [okL, Bool.and_eq_true] at hq; exact hq.1
        have q4 : ((l.length : Int) != (l0.length : Int)) = false := by simp; omega
        have HQ := Lib.hid (And.intro hq (And.intro q1 q2))
        rw [q3]
        clear hq q1 q2 q3
        go_wp2_with fail
        go_loopw [8, 38] (fun v i wr => ∃ j : Nat, j ≤ l.length ∧ i = .int .i64 j ∧ Kd.R (Kd.int .i64) 3 wr w.heap.size (fun _ => True) v (preN (l0.length : Int) l0 l1 l2 k ++ flatC (l.take j)) ∧ Below w.heap.size w wr) (fun _ i _ => l.length - (intOf i).toNat)
        case atStart => exact ⟨0, Nat.zero_le _, rfl, by simpa [flatC] using HR5.out, HB5.out⟩
        case round =>
          obtain ⟨j, hj, rfl, hR, hB⟩ := hrel
          by_cases hlj : j < l.length
          · obtain ⟨x, hxk⟩ : ∃ x, l[j]? = some x := ⟨l[j], List.getElem?_eq_getElem hlj⟩
            have hrl := HL.out.2.1
            obtain ⟨ad, rfl, hl0, hl1⟩ := read_c hrl hB j x hxk
            have HK := Lib.hid (And.intro hR hB)
            clear hR hB hrl
            have hlen : (preN (l0.length : Int) l0 l1 l2 k ++ flatC (l.take j)).length ≤ 1000 := by
              have h1 := preN_len l0.length l0 l1 l2 k hok.out
              have h2 := flatC_len (l.take j)
              have h3 := HQ.out.2.2
              rw [List.length_append, h2, List.length_take]
              omega
            have HLN := Lib.hid hlen
            clear hlen
            go_wp2_with ((with_reducible refine gate_builtin (b := .append) (xs := #[.tmp 42, .tmp 47]) rfl ?_); at_builtin; refine Stop.out ?_)
            refine ⟨?_⟩
            refine Kd.R_append_rows (Kd.int .i64) (w0 := w) w.heap.size rfl (.tmp 42) (.tmp 47) 25 3 (.int .i64 0) 8 rfl Tryd.underlying25 info_n rfl (by decide) (by omega) _ (preN (l0.length : Int) l0 l1 l2 k ++ flatC (l.take j)) [x.f0, x.f1] _ _ _ (fun _ => True) (fun _ => False) rfl rfl ?aO ?aR (fun _ _ h => h) (fun _ h => h.elim) (fun _ _ => trivial) ?aB ?aS ?aL ?_
            case aO => exact Kd.R_alloc (Kd.R_alloc HK.out.1 _) _
            case aR =>
              have hp := C_parts (d := Kd.int .i64) (wr.alloc (Obj.cells #[Value.int IntKind.i64 x.f0, Value.int IntKind.i64 x.f1] 23)) [x.f0, x.f1] [[.int .i64 x.f0], [.int .i64 x.f1]] 3 (by simp) ⟨rfl, rfl, trivial⟩
              rw [World.size_alloc] at hp
              exact hp
            case aB => exact (HK.out.2.alloc HK.out.2.size _).alloc (by rw [World.size_alloc]; have := HK.out.2.size; omega) _
            case aS => rw [World.size_alloc, World.size_alloc]; have := HK.out.2.size; omega
            case aL => have := HLN.out; omega
            intro v6 w6 ho6 hb6 hg6 hat6; have HO6 := Lib.hid (And.intro ho6 hb6)
            clear ho6 hb6 hg6 hat6
            have e2 : preN (l0.length : Int) l0 l1 l2 k ++ flatC (l.take j) ++ [x.f0, x.f1] = preN (l0.length : Int) l0 l1 l2 k ++ flatC (l.take (j + 1)) := by rw [flatC_take l j x hxk, List.append_assoc]
            have HE := Lib.hid e2
            clear e2 hl0 hl1 hxk
            go_wp2_with fail
            clear HK HLN
            have HWJ := Lib.hid (show wrap64 ((j : Int) + 1) = ((j + 1 : Nat) : Int) by have := HQ.out.2.2; unfold wrap64; omega)
            refine ⟨⟨j + 1, by omega, by first | rw [HWJ.out] | rfl, by rw [← HE.out]; exact HO6.out.1, HO6.out.2⟩, ?_⟩
            try rw [HWJ.out]
            simp only [intOf, Int.toNat_natCast]
            omega
          · obtain rfl : j = l.length := by omega
            rw [List.take_length] at hR
            have HK := Lib.hid (And.intro hR hB)
            clear hR hB
            go_wp2_with fail
            have hok2 : okTo l0.length l0 l1 l2 (k + 1) := by
              intro j hj
              by_cases hjk : j < k
              · exact hok.out j hjk
              · obtain rfl : j = k := by omega
                rw [HL.out.1]
                exact HQ.out.1
            have HOK2 := Lib.hid hok2
            have HPN := Lib.hid (show preN (l0.length : Int) l0 l1 l2 k ++ flatC l = preN (l0.length : Int) l0 l1 l2 (k + 1) by rw [preN, HL.out.1])
            clear hok2
            refine ⟨⟨k + 1, by omega, by simp, HOK2, by rw [← HPN.out]; exact HK.out.1, HK.out.2⟩, ?_⟩
            simp only [intOf]
            omega
      · have hres : (([], 1) : List Bool × Int) = (r1, r2) := by
          rw [← HRES.out]
          unfold askV
          rw [if_neg]
          intro hall
          simp only [Bool.and_eq_true] at hall
          refine hq ?_
          rw [← HL.out.1]
          obtain rfl | rfl | rfl : k = 0 ∨ k = 1 ∨ k = 2 := by omega
          · exact hall.1
          · exact hall.2.1
          · exact hall.2.2
        simp only [Prod.mk.injEq] at hres
        obtain ⟨rfl, rfl⟩ := hres
        have hfin : ∀ v : Value, v = .slice none 0 0 → Kd.R Kd.bool 4 w5 w.heap.size (fun _ => True) v [] := fun v hv => by rw [hv]; exact Kd.R_of_own (enc := Value.bool) ⟨rfl, Or.inl ⟨rfl, rfl⟩⟩ (fun _ h => by cases h)
        have HF := Lib.hid hfin
        clear hfin
        cases hcc : ciphsB l with
        | false =>
          clear hcc hq
          go_wp2_with fail
          refine bodyPost_ret (results_tmp2 rfl _ _ _) rfl ?_
          exact ⟨_, rfl, HF.out _ rfl, HB5.out⟩
        | true =>
          have q4 : ((l.length : Int) != (l0.length : Int)) = true := by
            simp only [okL, hcc, Bool.true_and, decide_eq_true_eq] at hq
            simp; omega
          clear hcc hq
          go_wp2_with fail
          refine bodyPost_ret (results_tmp2 rfl _ _ _) rfl ?_
          exact ⟨_, rfl, HF.out _ rfl, HB5.out⟩
    · obtain rfl : k = 3 := by omega
      have h0 := hok.out 0 (by omega)
      have h1 := hok.out 1 (by omega)
      have h2 := hok.out 2 (by omega)
      simp only [nth3] at h0 h1 h2
      have hres : (bitsL l0.length (sumB (txt (askNums l0 l1 l2))), (0 : Int)) = (r1, r2) := by
        rw [← HRES.out]
        unfold askV
        rw [if_pos (by simp [h0, h1, h2])]
      simp only [Prod.mk.injEq] at hres
      obtain ⟨rfl, rfl⟩ := hres
      have hn64 := okL_len h0
      have hR7 := HRB.out.1
      rw [preN_3] at hR7
      obtain ⟨Ag, cg, rfl, hq2, hq3⟩ := Kd.R_reads hR7
      have hnl : (askNums l0 l1 l2).length ≤ 1000 := by
        have := preN_len l0.length l0 l1 l2 3 hok.out
        rw [preN_3] at this
        omega
      have hcs : ∀ l, okL l0.length l = true → ciphsB l = true := fun l h => by simp only [okL, Bool.and_eq_true] at h; exact h.1
      have C := Lib.hid (digest_Ints.calls Ag cg (askNums l0 l1 l2) (sumB (txt (askNums l0 l1 l2))) wr hq3 hq2 (TabOk.below HT.out HRB.out.2) (by unfold digest_Ints.f; rw [if_pos ⟨List.all_eq_true.2 (askNums_ok (hcs _ h0) (hcs _ h1) (hcs _ h2) hn64.2.2), by omega⟩]))
      have HB7 := Lib.hid HRB.out.2
      have HL0 := Lib.hid (hn64.2)
      have HRG := Lib.hid (sumB_range (txt (askNums l0 l1 l2)))
      obtain ⟨n, hn⟩ : ∃ n, n = sumB (txt (askNums l0 l1 l2)) := ⟨_, rfl⟩
      rw [← hn] at C HRG
      have HN := Lib.hid hn
      clear hn
      clear hlt h0 h1 h2 hn64 hR7 hq2 hq3 hnl hcs hok HRB HRES
      go_wp2_with fail
      refine C.out.mono ?_
      rintro e w8 ⟨rfl, hb8⟩
      have HB8 := Lib.hid (HB7.out.trans (Below.mono hb8 HB7.out.size))
      clear hb8 C HB7
      go_wp2_with ((with_reducible refine gate_dst (N := 55) rfl ?_); refine Stop.out ?_)
      refine ⟨?_⟩
      refine Kd.R_make Kd.bool (w0 := w) w.heap.size 4 rfl (N := 55) rfl 34 _ _ rfl (l0.length : Int) rfl rfl Tryd.underlying34 (.bool false) 1 info_b rfl (by decide) (by omega) false (ok := fun _ => True) (okp := fun _ => True) rfl (fun _ hk => hk) trivial (by omega) (by have := HL0.out; simp only [Int.toNat_natCast]; omega) HB8.out HB8.out.size ?_
      intro v9 w9 ho9 hb9 hg9 hn9
      rw [Int.toNat_natCast] at ho9
      obtain ⟨g, cap, rfl, hg1, hg2, cells, hg3⟩ := Kd.R_form ho9 (by have := HL0.out; rw [List.length_replicate]; omega)
      rw [List.length_replicate] at ho9 ⊢
      have HO9 := Lib.hid (And.intro ho9 hb9)
      clear ho9 hb9 hg9 hn9 HB8 hg1 hg2 cells hg3
      go_wp2_with fail
      go_loopw [58] (fun i wr => ∃ j : Nat, j ≤ l0.length ∧ i = .int .i64 j ∧ Kd.R Kd.bool 4 wr w.heap.size (fun _ => True) (.slice (some ⟨g, 0, none⟩) l0.length cap) (bitsL j n ++ List.replicate (l0.length - j) false) ∧ Below w.heap.size w wr) (fun i _ => l0.length - (intOf i).toNat)
      case atStart => exact ⟨0, Nat.zero_le _, rfl, by simpa [bitsL] using HO9.out.1, HO9.out.2⟩
      case round =>
        obtain ⟨j, hj, rfl, hR, hB⟩ := hrel
        by_cases hlt : j < l0.length
        · have hcell := Kd.R_celln false hR (j : Int) (by omega) (by omega)
          rw [Int.toNat_natCast] at hcell
          obtain ⟨hc1, hc2⟩ := hcell
          have HK := Lib.hid (And.intro hR hB)
          clear hR hB HO9
          have i0' : (0 : Int) ≤ (j : Int) := Int.natCast_nonneg _
          have i1' : (j : Int) < (l0.length : Int) := by omega
          go_wp2_with fail
          have hput := Kd.R_putn HK.out.1 (j : Int) (Go.bits .and .u64 (n / 2 ^ min j 64) 1 == 1)
          rw [Int.toNat_natCast, bit_at n j HRG.out.1 HRG.out.2 (by have := HL0.out; omega), set_bits _ _ j l0.length (bitsL_len j n) hlt, ← bitsL_snoc] at hput
          rw [bit_at n j HRG.out.1 HRG.out.2 (by have := HL0.out; omega)]
          have HP := Lib.hid hput
          have HWJ := Lib.hid (show wrap64 ((j : Int) + 1) = ((j + 1 : Nat) : Int) by have := HL0.out; unfold wrap64; omega)
          clear hput hc1 hc2
          refine ⟨⟨j + 1, by omega, by first | rw [HWJ.out] | rfl, HP.out, HK.out.2.setCell ?_ _⟩, ?_⟩
          · exact Kd.R_base HK.out.1 g rfl
          try rw [HWJ.out]
          simp only [intOf, Int.toNat_natCast]
          omega
        · obtain rfl : j = l0.length := by omega
          have HK := Lib.hid (And.intro hR hB)
          clear hR hB HO9
          go_wp2_with fail
          refine bodyPost_ret (results_tmp2 rfl _ _ _) rfl ?_
          exact ⟨_, rfl, by rw [← HN.out]; simpa using HK.out.1, HK.out.2⟩
end Go.Proofs.YtkaebblbmoolaaaDoor.P
