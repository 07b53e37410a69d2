/- slices.Clone and slices.Insert of keys. -/
import Derived.Test.YtcnkenknbmmglaaDoorXbehind
import Derived.Lib.LazyBuf
import Derived.Shelf.Spec.SlicesInsert
import Derived.Lib.AppendZerosOnto
set_option linter.unusedSimpArgs false
set_option linter.unusedVariables false
namespace Go.Proofs.YtcnkenknbmmglaaDoor.P
open Go Go.RowKit Go.Proofs.YtcnkenknbmmglaaDoorW.PrintWords Go.Proofs.YtcnkenknbmmglaaDoorW.PrintLast Go.Proofs.YtcnkenknbmmglaaDoorW.PrintMore Go.Proofs.YtcnkenknbmmglaaDoor.Ord

/-- copy between elements of k cells, the target a row: all is read before anything is written. -/
theorem run_copy_rowk {P : Program} (w : World) (dT sT ty elem : TypeId) (k n g o dLen dCap : Nat) (a : Addr) (sLen sCap : Nat) (cur : Array Value) (t : TypeId) (cs : List Value)
    (hu : P.underlying dT = some (.slice elem)) (hs : (P.info? elem).map (·.size) = some k) (hn : Nat.min sLen dLen = n) (hcn : cs.length = n * k)
    (hg : w.heap[g]? = some (.cells cur t (0, 0)))
    (hsrc : ∀ j v, cs[j]? = some v → w.cell? (a.add j) = some v) (hfit : o + cs.length ≤ cur.size) (h1 : ∀ v ∈ cs, v.oneCell' = true) :
    (Builtin.copy_ #[dT, sT] ty #[.slice (some ⟨g, o, none⟩) dLen dCap, .slice (some a) sLen sCap]).run P w =
      .ok (goInt n) (w.setRow g (cur.toList.take o ++ cs ++ cur.toList.drop (o + cs.length)).toArray) := by
  have hl := run_loadCells_list (P := P) w a cs hsrc
  have hst := run_storeCells_at P g o t cs 0 cur w hg (by simpa using hfit) h1
  cases hq : P.info? elem with
  | none => simp [hq] at hs
  | some i =>
    have hi : i.size = k := by simpa [hq] using hs
    simp [Builtin.copy_, run_underlying hu, Builtin.lenOf, Builtin.firstCells, sizeOf, typeInfo, hq, hi, hn, ← hcn, hl, hst]
/-- The cells of keys. -/
def cK (x : S49) : List Value := [.int .i64 x.f0, .int .i64 x.f1, .int .i64 x.f2]
def cKs (l : List S49) : List Value := l.flatMap cK
theorem cKs_len : ∀ l : List S49, (cKs l).length = l.length * 3
  | [] => rfl
  | x :: l => by
    have := cKs_len l
    unfold cKs at this ⊢
    rw [List.flatMap_cons, List.length_append, this]
    show 3 + l.length * 3 = (l.length + 1) * 3
    omega
theorem cKs_app (a b : List S49) : cKs (a ++ b) = cKs a ++ cKs b := List.flatMap_append
theorem cKs_one : ∀ (l : List S49), ∀ u ∈ cKs l, u.oneCell' = true := by
  intro l u hu
  obtain ⟨x, -, hx⟩ := List.mem_flatMap.1 hu
  simp only [cK, List.mem_cons, List.not_mem_nil, or_false] at hx
  rcases hx with rfl | rfl | rfl <;> rfl
theorem reps_cKs {w : World} {base : Nat} {ok : Nat → Prop} : ∀ (l : List S49) (cs : List Value), Reps (k49.M w base ok) 3 l cs → cs = cKs l
  | [], cs, h => List.length_eq_zero_iff.1 (by rw [h.1]; rfl)
  | x :: l, cs, h => by
    have h0 := h.2 0 x rfl
    rw [Nat.zero_mul, List.drop_zero] at h0
    have e0 := k49_openM h0
    have hr : Reps (k49.M w base ok) 3 l (cs.drop 3) := ⟨by rw [List.length_drop, h.1, List.length_cons]; omega, fun j p hj => by
      have := h.2 (j + 1) p (by simpa using hj)
      rw [List.drop_drop, show 3 + j * 3 = (j + 1) * 3 from by omega]
      exact this⟩
    have e1 := reps_cKs l _ hr
    conv => lhs; rw [← List.take_append_drop 3 cs]
    rw [e0, e1]
    rfl
theorem reps_of {w : World} {base : Nat} {ok : Nat → Prop} : ∀ (l : List S49), Reps (k49.M w base ok) 3 l (cKs l) := fun l =>
  ⟨cKs_len l, fun j p hj => by
    have hjl := (List.getElem?_eq_some_iff.1 hj).1
    have e : l = l.take j ++ p :: l.drop (j + 1) := by
      have hp : l[j] = p := (List.getElem?_eq_some_iff.1 hj).2
      conv => lhs; rw [← List.take_append_drop j l, List.drop_eq_getElem_cons hjl, hp]
    have e2 : (cKs l).drop (j * 3) = cK p ++ cKs (l.drop (j + 1)) := by
      conv => lhs; rw [e, cKs_app]
      rw [List.drop_append_of_le_length (by rw [cKs_len, List.length_take]; omega), List.drop_eq_nil_iff.2 (by rw [cKs_len, List.length_take]; omega)]
      rfl
    rw [e2]
    exact k49_mkM _ _ _ p⟩
/-- A row of keys of the call's own: a block whose first cells are theirs. -/
theorem R_openK {w : World} {base : Nat} {ok : Nat → Prop} {v : Value} {l : List S49} (h : Kd.R k49 49 w base ok v l) (h0 : 0 < l.length) :
    ∃ g cap cur, v = .slice (some ⟨g, 0, none⟩) l.length cap ∧ base ≤ g ∧ w.heap[g]? = some (.cells cur 49 (0, 0)) ∧ l.length ≤ cap ∧ cap ≤ maxLen ∧ cur.size = cap * 3 ∧ cur.toList.take (l.length * 3) = cKs l := by
  obtain ⟨-, inner, ho, hr⟩ := h
  obtain rfl := reps_cKs l inner hr
  rcases ho.2 with ⟨-, e⟩ | ⟨g, cap, cur, e, hb, hh, h1, h2, h3, h4⟩
  · omega
  · exact ⟨g, cap, cur, e, hb, hh, h1, h2, h3, h4⟩
theorem R_mkK {w : World} {base : Nat} (g cap : Nat) (cur : Array Value) (l : List S49) (n : Nat) (hn : l.length = n) (hb : base ≤ g) (hh : w.heap[g]? = some (.cells cur 49 (0, 0))) (h1 : n ≤ cap) (h2 : cap ≤ maxLen) (h3 : cur.size = cap * 3)
    (h4 : cur.toList.take (n * 3) = cKs l) : Kd.R k49 49 w base (fun _ => True) (.slice (some ⟨g, 0, none⟩) n cap) l := by
  subst hn
  exact ⟨fun _ _ => trivial, cKs l, ⟨by rw [cKs_len]; rfl, .inr ⟨g, cap, cur, rfl, hb, hh, h1, h2, h3, h4⟩⟩, reps_of l⟩
/-- Two copies put c between a and b. -/
theorem ins_list {cur a b c t : List Value} (p k m : Nat) (ha : a.length = p) (hc : c.length = k) (hcur : ∃ r, cur = a ++ r ∧ k ≤ r.length) (c1 : List Value) (h1 : c1 = cur.take (p + k) ++ b ++ t) (c2 : List Value) (h2 : c2 = c1.take p ++ c ++ c1.drop (p + k))
    (hm : m = p + k + b.length) : c2.take m = a ++ c ++ b := by
  obtain ⟨r, rfl, hr⟩ := hcur
  have ht : ((a ++ r).take (p + k)).length = p + k := by rw [List.length_take, List.length_append]; omega
  have e1 : c1.take p = a := by
    rw [h1, List.append_assoc, List.take_append_of_le_length (by omega), List.take_take, Nat.min_eq_left (by omega), ← ha, List.take_left]
  have e2 : c1.drop (p + k) = b ++ t := by
    rw [h1, List.append_assoc]
    rw [List.drop_append_of_le_length (by omega), List.drop_eq_nil_iff.2 (by omega), List.nil_append]
  rw [h2, e1, e2, ← List.append_assoc, List.take_append_of_le_length (by simp only [List.length_append]; omega), List.take_of_length_le (by simp only [List.length_append]; omega)]
theorem ins_list2 {cur a b c t : List Value} (p k m : Nat) (ha : a.length = p) (hc : c.length = k) (hcur : ∃ r, cur = a ++ r) (c1 : List Value) (h1 : c1 = cur.take p ++ c ++ t) (c2 : List Value) (h2 : c2 = c1.take (p + k) ++ b ++ c1.drop (p + k + b.length))
    (hm : m = p + k + b.length) : c2.take m = a ++ c ++ b := by
  obtain ⟨r, rfl⟩ := hcur
  have e1 : c1.take (p + k) = a ++ c := by
    rw [h1, ← ha, List.take_left, List.take_append_of_le_length (by simp only [List.length_append]; omega), List.take_of_length_le (by simp only [List.length_append]; omega)]
  rw [h2, e1, List.take_append_of_le_length (by simp only [List.length_append]; omega), List.take_of_length_le (by simp only [List.length_append]; omega)]
theorem info_K : (Tryd.prog.info? 49).map (fun i => (i.zero, i.size, i.bytes)) = some (some (.agg #[(.int .i64 0), (.int .i64 0), (.int .i64 0)]), 3, 24) := by kernel_rfl
set_option maxHeartbeats 1000000 in
set_option maxRecDepth 100000 in
theorem clone_K (A : Option Addr) (c : Nat) (l : List S49) (w : World) (hr : Kd.C k49 w A l.length l) (hn : l.length ≤ 100000) :
    Calls Tryd.prog 40 #[.slice A l.length c] w fun e w' => ∃ v, e = .returned v ∧ Kd.R k49 49 w' w.heap.size (fun _ => True) v l ∧ Below w.heap.size w w' := by
  have HR := Lib.hid hr
  clear hr
  cases A with
  | none =>
    obtain rfl : l = [] := by
      cases l with
      | nil => rfl
      | cons x l =>
        obtain ⟨ad, e, -⟩ := at_T49 HR.out (0 : Int) (by omega) (by simp only [List.length_cons]; omega)
        cases e
    have hnil : ∀ W, (binOp .eql 22 (.slice none ([] : List S49).length c) (.slice none 0 0)).run Tryd.prog W = .ok (.bool true) W := fun W => run_eql_slice_nil W _ _ _ _ _ Tryd.underlying22
    simp only [List.length_nil] at hnil ⊢
    go_enter Tryd.func40, Tryd.ntmps40
    go_wp2_with fail
    go_ret
    exact ⟨_, rfl, Kd.R_nil _ _ _ _ _, Below.refl _ _⟩
  | some ad =>
    have hnil : ∀ W, (binOp .eql 22 (.slice (some ad) l.length c) (.slice none 0 0)).run Tryd.prog W = .ok (.bool false) W := fun W => run_eql_slice_nil W _ _ _ _ _ Tryd.underlying22
    have hu := Tryd.underlying22
    go_enter Tryd.func40, Tryd.ntmps40
    go_wp2_with (first
        | ((with_reducible refine gate_dst (N := 5) rfl ?_); refine Kd.R_lit k49 _ 49 ?hg (N := 5) ?hd (xs := ([] : List S49)) (inner := []) (ok := fun _ => True) (okp := fun _ => True) ?hr ?hp (fun _ hk => hk) trivial (Below.refl _ _) (Nat.le_refl _) (by simp) ?_; (case hd => rfl); (case hg => rfl); (case hr => first | (go_simp; done) | (go_simp; rfl)); (case hp => exact (Reps.none _ _)); intro v3 w3 ho3 hb3 hg_ hnew_; clear hg_ hnew_; have HO3 := Lib.hid ho3; have HB3 := Lib.hid hb3; clear ho3 hb3)
        | ((with_reducible refine gate_builtin (b := .append) (xs := #[.tmp 5, .tmp 6]) rfl ?_); at_builtin; refine Kd.R_append_rows k49 (w0 := w) w.heap.size rfl (.tmp 5) (.tmp 6) 22 49 (.agg #[(.int .i64 0), (.int .i64 0), (.int .i64 0)]) 24 rfl hu info_K rfl (by decide) (by omega) v3 [] l _ _ _ (fun _ => True) (fun _ => False) rfl rfl ?aO ?aR (fun _ _ h => h) (fun _ h => h.elim) (fun _ _ => trivial) HB3.out HB3.out.size ?aL ?_; (case aR => exact Kd.C_below HR.out HB3.out); (case aO => exact HO3.out); (case aL => simp; omega); intro v4 w4 ho4 hb4 hg hat; have HO4 := Lib.hid ho4; have HB4 := Lib.hid hb4; clear ho4 hb4 hg hat HO3 HB3))
    go_ret
    exact ⟨_, rfl, by simpa using HO4.out, HB4.out⟩

theorem ins_shift {l : List S49} {x : S49} {i : Nat} (hi : i ≤ l.length) : cKs (l.take i ++ x :: l.drop i) = cKs (l.take i) ++ cK x ++ cKs (l.drop i) := by
  rw [cKs_app, List.append_assoc]
  rfl
theorem bl_setRow {B g : Nat} {w0 w : World} (hb : Below B w0 w) (hBg : B ≤ g) (cs : Array Value) : Below B w0 (w.setRow g cs) :=
  ⟨hb.os, hb.tape, hb.output, by rw [setRow_size]; exact hb.size, fun k hk => (setRow_other _ _ _ _ (by omega)).trans (hb.block k hk)⟩
set_option maxHeartbeats 4000000 in
set_option maxRecDepth 100000 in
/-- slices.Insert of one key into a row of the call's own: there is room. -/
theorem insert_room (l : List S49) (i : Nat) (x : S49) (w : World) (base g cap vb : Nat) (cur : Array Value) (hb : base ≤ g) (hh : w.heap[g]? = some (.cells cur 49 (0, 0))) (h1 : l.length + 1 ≤ cap) (h2 : cap ≤ maxLen) (h3 : cur.size = cap * 3)
    (h4 : cur.toList.take (l.length * 3) = cKs l) (hi : i < l.length) (hn : l.length ≤ 100000)
    (hvb : w.heap[vb]? = some (.cells #[.int .i64 x.f0, .int .i64 x.f1, .int .i64 x.f2] 49 (0, 0))) (hne : vb ≠ g) :
    Calls Tryd.prog 39 #[.slice (some ⟨g, 0, none⟩) l.length cap, .int .i64 (i : Int), .slice (some ⟨vb, 0, none⟩) 1 1] w fun e w' =>
      ∃ v', e = .returned v' ∧ Kd.R k49 49 w' base (fun _ => True) v' (l.take i ++ x :: l.drop i) ∧ Below base w w' := by
  have hu := Tryd.underlying22
  have u1 := run_underlying hu
  have hsz : (Tryd.prog.info? 49).map (·.size) = some 3 := by
    obtain ⟨i0, hi0, -, hs, -⟩ := info_parts info_K
    rw [hi0]; simp [hs]
  have hz2 : ¬ ((i : Int) = (l.length : Int)) := by omega
  have hov : ∀ W : World, W.heap[g]? = some (.cells cur 49 (0, 0)) → W.heap[vb]? = some (.cells #[.int .i64 x.f0, .int .i64 x.f1, .int .i64 x.f2] 49 (0, 0)) → ∀ lb cb, (callFunc 63 #[.slice (some ⟨vb, 0, none⟩) 1 1, .slice (some ⟨g, (i + 1) * 3, none⟩) lb cb]).run Tryd.prog W = .ok (.value (.bool false)) W := by
    intro W hg hv lb cb
    have hsa : W.shape? vb = some (49, 3) := by unfold World.shape?; rw [hv]; rfl
    have hsb : W.shape? g = some (49, cur.size) := by unfold World.shape?; rw [hg]
    rw [run_callFunc_extern Tryd.func63 (by kernel_rfl) (by kernel_rfl) (by kernel_rfl) (e := Extern.SlicesOverlaps.overlaps #[22, 22] #[4]) (by kernel_rfl),
      Lib.run_overlaps_apart W 22 4 49 hu 3 (fun w => by obtain ⟨i0, hi0, -, hs, -⟩ := info_parts info_K; simp [sizeOf, typeInfo, hi0, hs]) ⟨vb, 0, none⟩ ⟨g, (i + 1) * 3, none⟩ 1 1 lb cb hne 49 49 3 cur.size hsa hsb (by omega) (by simp [World.frozen?, hv]) (by simp [World.frozen?, hv])]
    rfl
  have hdl : (cKs (l.drop i)).length = (l.length - i) * 3 := by rw [cKs_len, List.length_drop]
  have hsp : cKs l = cKs (l.take i) ++ cKs (l.drop i) := by rw [← cKs_app, List.take_append_drop]
  have hal : (cKs (l.take i)).length = i * 3 := by rw [cKs_len, List.length_take, Nat.min_eq_left (by omega)]
  have hsrc : ∀ (W : World), W.heap[g]? = some (.cells cur 49 (0, 0)) → ∀ j v, (cKs (l.drop i))[j]? = some v → W.cell? ((⟨g, i * 3, none⟩ : Addr).add j) = some v := by
    intro W hg j v hj
    have hjl := (List.getElem?_eq_some_iff.1 hj).1
    have e : (cKs l)[i * 3 + j]? = some v := by rw [hsp, List.getElem?_append_right (by omega), hal, Nat.add_sub_cancel_left]; exact hj
    rw [← h4, List.getElem?_take, if_pos (by omega)] at e
    rw [Addr.add_lit]
    simp only [World.cell?, hg]
    simpa using e
  obtain ⟨cur1, hc1⟩ : ∃ c, c = (cur.toList.take ((i + 1) * 3) ++ cKs (l.drop i) ++ cur.toList.drop ((i + 1) * 3 + (cKs (l.drop i)).length)).toArray := ⟨_, rfl⟩
  have hsz1 : cur1.size = cap * 3 := by
    rw [hc1]
    simp only [List.size_toArray, List.length_append, List.length_take, List.length_drop, Array.length_toList, hdl, h3]
    omega
  have hcp1 : ∀ W : World, W.heap[g]? = some (.cells cur 49 (0, 0)) → ∀ ty dc sc, (Builtin.copy_ #[22, 22] ty #[.slice (some ⟨g, (i + 1) * 3, none⟩) (l.length - i) dc, .slice (some ⟨g, i * 3, none⟩) (l.length + 1 - i) sc]).run Tryd.prog W = .ok (goInt (l.length - i : Nat)) (W.setRow g cur1) := by
    intro W hg ty dc sc
    rw [run_copy_rowk W _ _ ty 49 3 (l.length - i) g ((i + 1) * 3) _ dc ⟨g, i * 3, none⟩ _ sc cur 49 (cKs (l.drop i)) hu hsz (by simp only [Nat.min_def]; split <;> omega) hdl hg (hsrc W hg) (by rw [hdl, h3]; omega) (cKs_one _), hc1]
  obtain ⟨cur2, hc2⟩ : ∃ c, c = (cur1.toList.take (i * 3) ++ cK x ++ cur1.toList.drop (i * 3 + 3)).toArray := ⟨_, rfl⟩
  have hsz2 : cur2.size = cap * 3 := by
    rw [hc2]
    simp only [List.size_toArray, List.length_append, List.length_take, List.length_drop, Array.length_toList, hsz1]
    show min (i * 3) (cap * 3) + 3 + _ = _
    omega
  have hcp2 : ∀ W : World, W.heap[g]? = some (.cells cur1 49 (0, 0)) → W.heap[vb]? = some (.cells #[.int .i64 x.f0, .int .i64 x.f1, .int .i64 x.f2] 49 (0, 0)) → ∀ ty dc, (Builtin.copy_ #[22, 22] ty #[.slice (some ⟨g, i * 3, none⟩) (l.length + 1 - i) dc, .slice (some ⟨vb, 0, none⟩) 1 1]).run Tryd.prog W = .ok (goInt 1) (W.setRow g cur2) := by
    intro W hg hv ty dc
    rw [run_copy_rowk W _ _ ty 49 3 1 g (i * 3) _ dc ⟨vb, 0, none⟩ _ 1 cur1 49 (cK x) hu hsz (by simp only [Nat.min_def]; split <;> omega) rfl hg (fun j v hj => by
      rw [Addr.add_lit]
      simp only [World.cell?, hv]
      simpa [cK] using hj) (by rw [hsz1]; show i * 3 + 3 ≤ _; omega) (by intro u hu; simp only [cK, List.mem_cons, List.not_mem_nil, or_false] at hu; rcases hu with rfl | rfl | rfl <;> rfl), hc2]
    rfl
  have hfin : cur2.toList.take ((l.length + 1) * 3) = cKs (l.take i ++ x :: l.drop i) := by
    rw [ins_shift (by omega)]
    refine ins_list (cur := cur.toList) (t := cur.toList.drop ((i + 1) * 3 + (cKs (l.drop i)).length)) (i * 3) 3 _ hal rfl ⟨cKs (l.drop i) ++ cur.toList.drop (l.length * 3), ?_, ?_⟩ cur1.toList (by rw [hc1, show i * 3 + 3 = (i + 1) * 3 from by omega]) cur2.toList (by rw [hc2]) (by rw [hdl]; omega)
    · rw [← List.append_assoc, ← hsp, ← h4, List.take_append_drop]
    · rw [List.length_append, hdl]; omega
  have hHH := Lib.hid hh
  have hVV := Lib.hid hvb
  have hov1 := hov w hh hvb
  have hcp1w := hcp1 w.drew hh
  have z49 : ∀ w : World, (sizeOf 49).run Tryd.prog w = .ok 3 w := fun w => by obtain ⟨i0, hi0, -, hs, -⟩ := info_parts info_K; simp [sizeOf, typeInfo, hi0, hs]
  have mixed : Tryd.prog.follows Departure.mixedOrders = true := by kernel_rfl
  have hw1 : IntKind.i64.wrap ((i : Int) + 1) = (i : Int) + 1 := by rw [IntKind.wrap_i64]; omega
  have hb1 : (0 : Int) ≤ (i : Int) + 1 := by omega
  have htn : ((i : Int) + 1).toNat = i + 1 := by omega
  have hb2 : ¬ (cap = i + 1) := by omega
  have hb3 : (i : Int) ≤ (l.length : Int) + 1 := by omega
  have hb4 : ¬ (cap = i) := by omega
  have hin : i ≤ l.length := by omega
  clear hov hcp1 hc1 hc2 h3 h4 hdl hsp hal hsrc hsz1 hh hvb
  go_enter Tryd.func39, Tryd.ntmps39
  go_wp2_with (simp only [hov1])
  go_region_law_o (refine step_copy_runI rfl _ _ 22 22 rfl _ _ (by simp [Act.eval, Act.put]) (by simp [Act.eval, Act.put]) (hcp1w _ _ _) ?_)
  obtain ⟨W1, hW1⟩ : ∃ W, W = w.drew.setRow g cur1 := ⟨_, rfl⟩
  have hg1 : W1.heap[g]? = some (.cells cur1 49 (0, 0)) := by rw [hW1]; exact setRow_heap _ _ _ _ _ _ hHH.out
  have hv1 : W1.heap[vb]? = some (.cells #[.int .i64 x.f0, .int .i64 x.f1, .int .i64 x.f2] 49 (0, 0)) := by rw [hW1, setRow_other _ _ _ _ hne]; exact hVV.out
  have HB1 := Lib.hid (show Below base w W1 by rw [hW1]; exact bl_setRow (below_drew1 (Below.refl _ _)) hb _)
  rw [← hW1]
  have hcp2w := hcp2 W1 hg1 hv1
  have HG1 := Lib.hid hg1
  clear hcp2 hg1 hv1 hW1
  go_wp2_with (at_builtin; refine wpList_copy_runI _ rfl _ _ 22 22 rfl _ _ rfl rfl (hcp2w _ _) ?_)
  go_ret
  refine ⟨_, rfl, ?_, bl_setRow HB1.out hb _⟩
  exact R_mkK g cap cur2 _ (l.length + 1) (by rw [List.length_append, List.length_cons, List.length_take, List.length_drop]; omega) hb (setRow_heap _ _ _ _ _ _ HG1.out) h1 h2 hsz2 hfin
set_option maxHeartbeats 4000000 in
set_option maxRecDepth 100000 in
/-- .. and there is none: a new row. -/
theorem insert_grow (l : List S49) (i : Nat) (x : S49) (w : World) (base g cap vb : Nat) (cur : Array Value) (hb : base ≤ g) (hh : w.heap[g]? = some (.cells cur 49 (0, 0))) (h0 : l.length ≤ cap) (h1 : cap < l.length + 1) (h3 : cur.size = cap * 3)
    (h4 : cur.toList.take (l.length * 3) = cKs l) (hi : i < l.length) (hn : l.length ≤ 100000)
    (hvb : w.heap[vb]? = some (.cells #[.int .i64 x.f0, .int .i64 x.f1, .int .i64 x.f2] 49 (0, 0))) :
    Calls Tryd.prog 39 #[.slice (some ⟨g, 0, none⟩) l.length cap, .int .i64 (i : Int), .slice (some ⟨vb, 0, none⟩) 1 1] w fun e w' =>
      ∃ v', e = .returned v' ∧ Kd.R k49 49 w' base (fun _ => True) v' (l.take i ++ x :: l.drop i) ∧ Below base w w' := by
  obtain rfl : cap = l.length := by omega
  have hu := Tryd.underlying22
  have u1 := run_underlying hu
  obtain ⟨i0, hi0, hz0, hzs, hzb⟩ := info_parts info_K
  have hsz : (Tryd.prog.info? 49).map (·.size) = some 3 := by rw [hi0]; simp [hzs]
  have z49 : ∀ w : World, (sizeOf 49).run Tryd.prog w = .ok 3 w := fun w => by simp [sizeOf, typeInfo, hi0, hzs]
  have hz2 : ¬ ((i : Int) = (l.length : Int)) := by omega
  have hz3 : (l.length : Int) < (l.length : Int) + 1 := by omega
  have hgw : g < w.heap.size := (Array.getElem?_eq_some_iff.1 hh).1
  have hvw : vb < w.heap.size := (Array.getElem?_eq_some_iff.1 hvb).1
  have hdl : (cKs (l.drop i)).length = (l.length - i) * 3 := by rw [cKs_len, List.length_drop]
  have hsp : cKs l = cKs (l.take i) ++ cKs (l.drop i) := by rw [← cKs_app, List.take_append_drop]
  have hal : (cKs (l.take i)).length = i * 3 := by rw [cKs_len, List.length_take, Nat.min_eq_left (by omega)]
  have hcur : cur.toList = cKs l := by
    rw [← h4, List.take_of_length_le (by rw [Array.length_toList]; omega)]
  have hsrc : ∀ (W : World), W.heap[g]? = some (.cells cur 49 (0, 0)) → ∀ j v, (cKs (l.drop i))[j]? = some v → W.cell? ((⟨g, i * 3, none⟩ : Addr).add j) = some v := by
    intro W hg j v hj
    have e : (cKs l)[i * 3 + j]? = some v := by rw [hsp, List.getElem?_append_right (by omega), hal, Nat.add_sub_cancel_left]; exact hj
    rw [← hcur] at e
    rw [Addr.add_lit]
    simp only [World.cell?, hg]
    simpa using e
  have hold : (Builtin.firstCells i0.size i (.slice (some ⟨g, 0, none⟩) i l.length)).run Tryd.prog w.drew = .ok (cKs (l.take i)).toArray w.drew := by
    rw [hzs]
    exact run_firstCells_some w.drew 3 i ⟨g, 0, none⟩ i l.length (cKs (l.take i)) hal (fun j v hj => by
      have hjl := (List.getElem?_eq_some_iff.1 hj).1
      have e : (cKs l)[j]? = some v := by rw [hsp, List.getElem?_append_left (by omega)]; exact hj
      rw [← hcur] at e
      rw [Addr.add_lit]
      have hg : w.drew.heap[g]? = some (.cells cur 49 (0, 0)) := hh
      simp only [World.cell?, hg]
      simpa using e)
  obtain ⟨G, hG⟩ : ∃ G, G = grownCap w (l.length + 1) l.length 49 := ⟨_, rfl⟩
  obtain ⟨ROW, hROW⟩ : ∃ ROW : Array Value, ROW = (cKs (l.take i)).toArray ++ Builtin.zeroCells (Value.agg #[(.int .i64 0), (.int .i64 0), (.int .i64 0)]).cells (l.length + 1 - i) ++ Builtin.zeroCells (Value.agg #[(.int .i64 0), (.int .i64 0), (.int .i64 0)]).cells (G - (l.length + 1)) := ⟨_, rfl⟩
  have hik : i + (l.length + 1 - i) = l.length + 1 := by omega
  have hkk : (l.length : Int) + 1 - (i : Int) = ((l.length + 1 - i : Nat) : Int) := by omega
  have hrz : ∀ ty, (Builtin.append_ #[22, 3] ty #[.slice (some ⟨g, 0, none⟩) i l.length, .int .i64 ((l.length : Int) + 1 - (i : Int))]).run Tryd.prog w =
      .ok (.slice (some ⟨w.heap.size, 0, none⟩) (l.length + 1) G) (w.drew.alloc (.cells ROW 49)) := fun ty => by
    have h := Lib.run_append_grow_zeros w 22 3 ty 49 i0 _ .i64 .i64 hu Tryd.underlying3 hi0 hz0 (some ⟨g, 0, none⟩) i l.length (cKs (l.take i)) hold (l.length + 1 - i) (by omega) (by omega) (by omega) (by omega) (by rw [hzb]; omega) (by rw [hzb, hik]; exact growslice_fits (by omega) (by omega))
    rw [hik, ← hG, ← hROW] at h
    rw [hkk]
    exact h
  have hGn : l.length + 1 ≤ G := by rw [hG]; exact grownCap_ge w _ _ _
  have hG63 : G ≤ maxLen := by
    rw [hG]
    exact grownCap_le_maxLen w (l.length + 1) l.length 49 (by unfold maxLen; omega)
  have hRl : ROW.size = G * 3 := by
    rw [hROW]
    simp [Builtin.zeroCells, Value.cells, hal]
    omega
  have hRt : ∃ r, ROW.toList = cKs (l.take i) ++ r := by
    rw [hROW]
    simp only [Array.toList_append, List.append_assoc]
    exact ⟨_, rfl⟩
  obtain ⟨cur1, hc1⟩ : ∃ c, c = (ROW.toList.take (i * 3) ++ cK x ++ ROW.toList.drop (i * 3 + 3)).toArray := ⟨_, rfl⟩
  have hsz1 : cur1.size = G * 3 := by
    rw [hc1]
    simp only [List.size_toArray, List.length_append, List.length_take, List.length_drop, Array.length_toList, hRl]
    show min (i * 3) (G * 3) + 3 + _ = _
    omega
  have hcp1 : ∀ W : World, W.heap[w.heap.size]? = some (.cells ROW 49 (0, 0)) → W.heap[vb]? = some (.cells #[.int .i64 x.f0, .int .i64 x.f1, .int .i64 x.f2] 49 (0, 0)) → ∀ ty dc, (Builtin.copy_ #[22, 22] ty #[.slice (some ⟨w.heap.size, i * 3, none⟩) (l.length + 1 - i) dc, .slice (some ⟨vb, 0, none⟩) 1 1]).run Tryd.prog W = .ok (goInt 1) (W.setRow w.heap.size cur1) := by
    intro W hg hv ty dc
    rw [run_copy_rowk W _ _ ty 49 3 1 w.heap.size (i * 3) _ dc ⟨vb, 0, none⟩ _ 1 ROW 49 (cK x) hu hsz (by simp only [Nat.min_def]; split <;> omega) rfl hg (fun j v hj => by
      rw [Addr.add_lit]
      simp only [World.cell?, hv]
      simpa [cK] using hj) (by rw [hRl]; show i * 3 + 3 ≤ _; omega) (by intro u hu; simp only [cK, List.mem_cons, List.not_mem_nil, or_false] at hu; rcases hu with rfl | rfl | rfl <;> rfl), hc1]
    rfl
  obtain ⟨cur2, hc2⟩ : ∃ c, c = (cur1.toList.take ((i + 1) * 3) ++ cKs (l.drop i) ++ cur1.toList.drop ((i + 1) * 3 + (cKs (l.drop i)).length)).toArray := ⟨_, rfl⟩
  have hsz2 : cur2.size = G * 3 := by
    rw [hc2]
    simp only [List.size_toArray, List.length_append, List.length_take, List.length_drop, Array.length_toList, hdl, hsz1]
    omega
  have hcp2 : ∀ W : World, W.heap[w.heap.size]? = some (.cells cur1 49 (0, 0)) → W.heap[g]? = some (.cells cur 49 (0, 0)) → ∀ ty dc sc, (Builtin.copy_ #[22, 22] ty #[.slice (some ⟨w.heap.size, (i + 1) * 3, none⟩) (l.length - i) dc, .slice (some ⟨g, i * 3, none⟩) (l.length - i) sc]).run Tryd.prog W = .ok (goInt (l.length - i : Nat)) (W.setRow w.heap.size cur2) := by
    intro W hg hgg ty dc sc
    rw [run_copy_rowk W _ _ ty 49 3 (l.length - i) w.heap.size ((i + 1) * 3) _ dc ⟨g, i * 3, none⟩ _ sc cur1 49 (cKs (l.drop i)) hu hsz (by simp only [Nat.min_def]; split <;> omega) hdl hg (hsrc W hgg) (by rw [hdl, hsz1]; omega) (cKs_one _), hc2]
  have hfin : cur2.toList.take ((l.length + 1) * 3) = cKs (l.take i ++ x :: l.drop i) := by
    rw [ins_shift (by omega)]
    exact ins_list2 (cur := ROW.toList) (t := ROW.toList.drop (i * 3 + 3)) (i * 3) 3 _ hal rfl hRt cur1.toList (by rw [hc1]) cur2.toList (by rw [hc2, show i * 3 + 3 = (i + 1) * 3 from by omega]) (by rw [hdl]; omega)
  have hHH := Lib.hid hh
  have hVV := Lib.hid hvb
  have mixed : Tryd.prog.follows Departure.mixedOrders = true := by kernel_rfl
  have hw1 : IntKind.i64.wrap ((i : Int) + 1) = (i : Int) + 1 := by rw [IntKind.wrap_i64]; omega
  have hb1 : (0 : Int) ≤ (i : Int) + 1 := by omega
  have htn : ((i : Int) + 1).toNat = i + 1 := by omega
  have hb2 : ¬ (G = i + 1) := by omega
  have hb3 : (i : Int) ≤ (l.length : Int) := by omega
  have hb4 : ¬ (G = i) := by omega
  have hb5 : ¬ (l.length = i) := by omega
  have hin : i ≤ l.length := by omega
  have hbase : base ≤ w.heap.size := by omega
  have hGH := Lib.hid (And.intro hGn hG63)
  have hgne : g ≠ w.heap.size := by omega
  have hvne : vb ≠ w.heap.size := by omega
  clear hG hROW hc1 hc2 h3 h4 hdl hsp hal hsrc hsz1 hh hvb hold hik hkk hRl hRt hcur hG63
  have hA1 : ((w.alloc (.cells ROW 49)).drew).heap[w.heap.size]? = some (.cells ROW 49 (0, 0)) := heap_alloc_new w _
  have hA2 : ((w.alloc (.cells ROW 49)).drew).heap[vb]? = some (.cells #[.int .i64 x.f0, .int .i64 x.f1, .int .i64 x.f2] 49 (0, 0)) := (heap_alloc_old w _ hvw).trans hVV.out
  have hA3 : ((w.alloc (.cells ROW 49)).drew).heap[g]? = some (.cells cur 49 (0, 0)) := (heap_alloc_old w _ hgw).trans hHH.out
  have hcp1w := hcp1 _ hA1 hA2
  have HA := Lib.hid (And.intro hA1 hA3)
  clear hcp1 hA1 hA2 hA3 hgw hvw
  go_enter Tryd.func39, Tryd.ntmps39
  go_wp2_with ((with_reducible refine gate_builtin (b := .append) (xs := #[.tmp 34, .tmp 39]) rfl ?_); at_builtin; refine Lib.wpList_append_run _ rfl _ _ _ _ rfl _ _ rfl rfl _ _ (hrz _) ?_)
  go_wp2_with (at_builtin; refine wpList_copy_runI _ rfl _ _ 22 22 rfl _ _ rfl rfl (hcp1w _ _) ?_)
  obtain ⟨W1, hW1⟩ : ∃ W, W = ((w.alloc (.cells ROW 49)).drew).setRow w.heap.size cur1 := ⟨_, rfl⟩
  have hg1 : W1.heap[w.heap.size]? = some (.cells cur1 49 (0, 0)) := by rw [hW1]; exact setRow_heap _ _ _ _ _ _ HA.out.1
  have hg2 : W1.heap[g]? = some (.cells cur 49 (0, 0)) := by rw [hW1, setRow_other _ _ _ _ hgne]; exact HA.out.2
  have HB1 := Lib.hid (show Below base w W1 by rw [hW1]; exact bl_setRow (below_drew1 ((Below.refl base w).alloc hbase _)) hbase _)
  rw [← hW1]
  have hcp2w := hcp2 W1.drew hg1 hg2
  have HG1 := Lib.hid hg1
  clear hcp1w hcp2 hg1 hg2 hW1
  go_region_law_o (refine step_copy_runI rfl _ _ 22 22 rfl _ _ (by simp [Act.eval, Act.put]) (by simp [Act.eval, Act.put]) (hcp2w _ _ _) ?_)
  go_wp2_with fail
  go_ret
  refine ⟨_, rfl, ?_, bl_setRow (below_drew1 HB1.out) hbase _⟩
  exact R_mkK w.heap.size G cur2 _ (l.length + 1) (by rw [List.length_append, List.length_cons, List.length_take, List.length_drop]; omega) hbase (setRow_heap _ _ _ _ _ _ HG1.out) hGH.out.1 hGH.out.2 hsz2 hfin
set_option maxHeartbeats 4000000 in
set_option maxRecDepth 100000 in
/-- .. behind the last: an append. -/
theorem insert_end (A : Option Addr) (c : Nat) (l : List S49) (x : S49) (w : World) (base vb : Nat) (HR : Hid (Kd.R k49 49 w base (fun _ => True) (.slice A l.length c) l)) (hbase : base ≤ w.heap.size) (hn : l.length ≤ 100000)
    (hX : Hid (Kd.C k49 w (some ⟨vb, 0, none⟩) 1 [x])) :
    Calls Tryd.prog 39 #[.slice A l.length c, .int .i64 (l.length : Int), .slice (some ⟨vb, 0, none⟩) 1 1] w fun e w' =>
      ∃ v', e = .returned v' ∧ Kd.R k49 49 w' base (fun _ => True) v' (l ++ [x]) ∧ Below base w w' := by
  have hu := Tryd.underlying22
  have u1 := run_underlying hu
  have z49 : ∀ w : World, (sizeOf 49).run Tryd.prog w = .ok 3 w := fun w => by obtain ⟨i0, hi0, hz0, hzs, hzb⟩ := info_parts info_K; simp [sizeOf, typeInfo, hi0, hzs]
  have hlc : l.length ≤ c := by
    obtain ⟨A', c', e, h, -⟩ := Kd.R_reads HR.out
    injection e with e1 e2 e3
    omega
  cases A with
  | none =>
    go_enter Tryd.func39, Tryd.ntmps39
    go_wp2_with ((with_reducible refine gate_builtin (b := .append) (xs := #[.tmp 23, .tmp 24]) rfl ?_); at_builtin; refine Kd.R_append_rows k49 (w0 := w) base rfl (.tmp 23) (.tmp 24) 22 49 (.agg #[(.int .i64 0), (.int .i64 0), (.int .i64 0)]) 24 rfl hu info_K rfl (by decide) (by omega) (.slice none l.length c) l [x] _ _ _ (fun _ => True) (fun _ => False) rfl rfl HR.out hX.out (fun _ _ h => h) (fun _ h => h.elim) (fun _ _ => trivial) (Below.refl _ _) hbase (by omega) ?_; intro v4 w4 ho4 hb4 hg hat; have HO4 := Lib.hid ho4; have HB4 := Lib.hid hb4; clear ho4 hb4 hg hat)
    all_goals (go_ret; exact ⟨_, rfl, HO4.out, HB4.out⟩)
  | some ad =>
    go_enter Tryd.func39, Tryd.ntmps39
    go_wp2_with ((with_reducible refine gate_builtin (b := .append) (xs := #[.tmp 23, .tmp 24]) rfl ?_); at_builtin; refine Kd.R_append_rows k49 (w0 := w) base rfl (.tmp 23) (.tmp 24) 22 49 (.agg #[(.int .i64 0), (.int .i64 0), (.int .i64 0)]) 24 rfl hu info_K rfl (by decide) (by omega) (.slice (some ad) l.length c) l [x] _ _ _ (fun _ => True) (fun _ => False) rfl rfl HR.out hX.out (fun _ _ h => h) (fun _ h => h.elim) (fun _ _ => trivial) (Below.refl _ _) hbase (by omega) ?_; intro v4 w4 ho4 hb4 hg hat; have HO4 := Lib.hid ho4; have HB4 := Lib.hid hb4; clear ho4 hb4 hg hat)
    all_goals (go_ret; exact ⟨_, rfl, HO4.out, HB4.out⟩)
/-- slices.Insert of one key into a row of the call's own. -/
theorem insert_calls (v : Value) (l : List S49) (i : Nat) (x : S49) (w : World) (base vb : Nat) (HR : Kd.R k49 49 w base (fun _ => True) v l) (hbase : base ≤ w.heap.size) (hi : i ≤ l.length) (hn : l.length ≤ 100000)
    (hvb : w.heap[vb]? = some (.cells #[.int .i64 x.f0, .int .i64 x.f1, .int .i64 x.f2] 49 (0, 0))) (hne : some vb ≠ v.ownBlock) :
    Calls Tryd.prog 39 #[v, .int .i64 (i : Int), .slice (some ⟨vb, 0, none⟩) 1 1] w fun e w' =>
      ∃ v', e = .returned v' ∧ Kd.R k49 49 w' base (fun _ => True) v' (l.take i ++ x :: l.drop i) ∧ Below base w w' := by
  by_cases hil : i = l.length
  · subst hil
    obtain ⟨A, c, rfl⟩ := Kd.R_slice HR
    rw [List.take_length, List.drop_length]
    refine insert_end A c l x w base vb (Lib.hid HR) hbase hn (Lib.hid ⟨rfl, by omega, fun _ => ⟨_, rfl, fun j p hj => ?_⟩⟩)
    obtain rfl : j = 0 := by have := (List.getElem?_eq_some_iff.1 hj).1; simp at this; omega
    obtain rfl : x = p := by simpa using hj
    refine ⟨_, rfl, k49_mk w x, fun i u hu => ?_⟩
    rw [Addr.add_lit]
    simp only [World.cell?, hvb]
    simpa using hu
  · obtain ⟨g, cap, cur, rfl, hg, hh, h1, h2, h3, h4⟩ := R_openK HR (by omega)
    by_cases hc : l.length + 1 ≤ cap
    · exact insert_room l i x w base g cap vb cur hg hh hc h2 h3 h4 (by omega) hn hvb (by simpa [Value.ownBlock] using hne)
    · exact insert_grow l i x w base g cap vb cur hg hh h1 (by omega) h3 h4 (by omega) hn hvb
end Go.Proofs.YtcnkenknbmmglaaDoor.P
