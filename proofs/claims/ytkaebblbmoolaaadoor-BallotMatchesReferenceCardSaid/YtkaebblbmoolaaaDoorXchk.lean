/- ballot.Check. -/
import Derived.Test.YtkaebblbmoolaaaDoorXasked
import Derived.Test.YtkaebblbmoolaaaDoorXorder
import Derived.Test.YtkaebblbmoolaaaDoorPbA
import Derived.Test.YtkaebblbmoolaaaDoorOrd
set_option linter.unusedSimpArgs false
set_option linter.unusedVariables false
namespace Go.Proofs.YtkaebblbmoolaaaDoor.P
open Go Go.RowKit Go.Proofs.YtkaebblbmoolaaaDoorW.PrintWords Go.Proofs.YtkaebblbmoolaaaDoorW.PrintLast Go.Proofs.YtkaebblbmoolaaaDoorW.PrintMore Go.Proofs.YtkaebblbmoolaaaDoor.Ord
attribute [local go_sem ↓] Go.wp_at_zero Go.wp_at_succ

/-- One link of a mix shows what it has to. -/
def chkAt (pub : Int) (inn mid out : List S23) (bits : List Bool) (i : Nat) (x : S53) (L R : List Int) : Bool :=
  if rdOf false bits (i : Int) = true then x.f0 == (i : Int) && (okD inn.length R x.f1 && conB pub (rd_T23 mid (i : Int)).f0 (rd_T23 mid (i : Int)).f1 (rd_T23 out x.f1).f0 (rd_T23 out x.f1).f1 x.f2)
  else x.f1 == (i : Int) && (okD inn.length L x.f0 && conB pub (rd_T23 inn x.f0).f0 (rd_T23 inn x.f0).f1 (rd_T23 mid (i : Int)).f0 (rd_T23 mid (i : Int)).f1 x.f2)
def chkF (pub : Int) (inn mid out : List S23) (bits : List Bool) : Nat → List Int → List Int → List S53 → Bool
  | _, _, _, [] => true
  | i, L, R, x :: r => chkAt pub inn mid out bits i x L R && (if rdOf false bits (i : Int) = true then chkF pub inn mid out bits (i + 1) L (R ++ [x.f1]) r else chkF pub inn mid out bits (i + 1) (L ++ [x.f0]) R r)
def chkV (pub : Int) (inn mid out : List S23) (links : List S53) : Bool × Int :=
  if keyB pub && ciphsB inn then (if (askV inn mid out).2 = 0 ∧ links.length = inn.length then (chkF pub inn mid out (askV inn mid out).1 0 [] [] links, 0) else (false, 0)) else (false, 1)
theorem askV_cases (l0 l1 l2 : List S23) : ((askV l0 l1 l2).2 = 0 ∧ okL l0.length l0 = true ∧ okL l0.length l1 = true ∧ okL l0.length l2 = true ∧ (askV l0 l1 l2).1.length = l0.length) ∨ ((askV l0 l1 l2).2 = 1 ∧ (askV l0 l1 l2).1 = []) := by
  unfold askV
  split
  · rename_i h
    simp only [Bool.and_eq_true] at h
    exact Or.inl ⟨rfl, h.1, h.2.1, h.2.2, bitsL_len _ _⟩
  · exact Or.inr ⟨rfl, rfl⟩
theorem read_l {w W : World} {A : Option Addr} {l : List S53} (h : Kd.C k53 w A l.length l) (hb : Below w.heap.size w W) (k : Nat) (x : S53) (hk : l[k]? = some x) : ∃ ad, A = some ad ∧ W.cell? (ad.add (k * 3)) = some (.int .i64 x.f0) ∧ W.cell? ⟨(ad.add (k * 3)).block, (ad.add (k * 3)).off + 1, none⟩ = some (.int .i64 x.f1) ∧ W.cell? ⟨(ad.add (k * 3)).block, (ad.add (k * 3)).off + 2, none⟩ = some (.int .i64 x.f2) := by
  obtain ⟨hlt, hx⟩ := List.getElem?_eq_some_iff.1 hk
  obtain ⟨ad, e, h0, h1, h2⟩ := at_T53 (Kd.C_below h hb) (k : Int) (by omega) (by omega)
  have hx2 : rd_T53 l (k : Int) = x := by unfold rd_T53; simp [List.getD, hk]
  rw [hx2] at h0 h1 h2
  exact ⟨ad, e, h0, h1, h2⟩
theorem read_ci {w W : World} {A : Option Addr} {l : List S23} (h : Kd.C k23 w A l.length l) (hb : Below w.heap.size w W) (i : Int) (h0 : 0 ≤ i) (h1 : i < l.length) : ∃ ad, A = some ad ∧ W.cell? (ad.add (i.toNat * 2)) = some (.int .i64 (rd_T23 l i).f0) ∧ W.cell? ⟨(ad.add (i.toNat * 2)).block, (ad.add (i.toNat * 2)).off + 1, none⟩ = some (.int .i64 (rd_T23 l i).f1) := by
  obtain ⟨ad, e, h2, h3⟩ := at_T23 (Kd.C_below h hb) i h0 h1
  exact ⟨ad, e, h2, h3⟩
theorem Dist.apart {W W' : World} {B r : Nat} {n : Int} {ks : List Int} (h : Dist W B n ks) (hg : W.grownBy W' (some r)) (hr : r < B ∨ B + 2 < r) : Dist W' B n ks :=
  ⟨h.n.grown hg (by simp; omega), h.m.grown hg (by simp; omega), h.s.same (hg.block _ h.s.lt (by simp; omega))⟩
/-- What stands still in the loop: the mix's own variable, the answers. -/
structure Fr (w : World) (B0 g : Nat) (mv cs : List Value) (W : World) : Prop where
  b : Below w.heap.size w W
  m : Blk W B0 28 mv
  a : Blk W g 4 cs
theorem Fr.below {w W W' : World} {B0 g k : Nat} {mv cs : List Value} (h : Fr w B0 g mv cs W) (hb : Below k W W') (hk : W.heap.size ≤ k) : Fr w B0 g mv cs W' :=
  ⟨h.b.trans (Below.mono hb (Nat.le_trans h.b.size hk)), h.m.below hb (Nat.lt_of_lt_of_le h.m.lt hk), h.a.below hb (Nat.lt_of_lt_of_le h.a.lt hk)⟩
theorem Fr.grown {w W W' : World} {B0 g r : Nat} {mv cs : List Value} (h : Fr w B0 g mv cs W) (hg : W.grownBy W' (some r)) (hr : w.heap.size ≤ r) (h0 : B0 ≠ r) (h1 : g ≠ r) : Fr w B0 g mv cs W' :=
  ⟨h.b.grown hg h.b.size (fun k hk => by cases hk; exact hr), h.m.grown hg (by simpa using h0), h.a.grown hg (by simpa using h1)⟩
def ballot_Check.f (a0 : Int) (l1 : List (S23)) (l2_0 : List (S23)) (l2_1 : List (S23)) (l2_2 : List (S53)) : Option (Bool × Int) := some (chkV a0 l1 l2_0 l2_1 l2_2)
set_option maxRecDepth 100000 in
set_option maxHeartbeats 4000000 in
theorem ballot_Check.calls (a0 : Int) (A1 : Option Addr) (c1 : Nat) (l1 : List (S23)) (A2_0 : Option Addr) (c2_0 : Nat) (l2_0 : List (S23)) (A2_1 : Option Addr) (c2_1 : Nat) (l2_1 : List (S23)) (A2_2 : Option Addr) (c2_2 : Nat) (l2_2 : List (S53)) (r1 : Bool) (r2 : Int) (w : World) (hr1 : Kd.C k23 w A1 l1.length l1) (hc1 : l1.length ≤ c1) (hr2_0 : Kd.C k23 w A2_0 l2_0.length l2_0) (hc2_0 : l2_0.length ≤ c2_0) (hr2_1 : Kd.C k23 w A2_1 l2_1.length l2_1) (hc2_1 : l2_1.length ≤ c2_1) (hr2_2 : Kd.C k53 w A2_2 l2_2.length l2_2) (hc2_2 : l2_2.length ≤ c2_2) (hT : TabOk w) (h : ballot_Check.f a0 l1 l2_0 l2_1 l2_2 = some (r1, r2)) :
    Calls Tryd.prog 19 #[.int .i64 a0, .slice A1 l1.length c1, .agg #[.slice A2_0 l2_0.length c2_0, .slice A2_1 l2_1.length c2_1, .slice A2_2 l2_2.length c2_2]] w fun e w' => e = .returned (.tuple #[.bool r1, .int .i64 r2]) ∧ Below w.heap.size w w' := by
  have HRES := Lib.hid (Option.some.inj h)
  have HT := Lib.hid hT
  have HR := Lib.hid (And.intro hr1 (And.intro hr2_0 (And.intro hr2_1 (And.intro hr2_2 (And.intro hc1 (And.intro hc2_0 (And.intro hc2_1 hc2_2)))))))
  clear h hT hr1 hr2_0 hr2_1 hr2_2 hc1 hc2_0 hc2_1 hc2_2
  go_enter Tryd.func19, Tryd.ntmps19
  go_wp2_with fail
  obtain ⟨hx1, hs1, hb1⟩ := Blk.box w 28 [Value.slice A2_0 l2_0.length c2_0, Value.slice A2_1 l2_1.length c2_1, Value.slice A2_2 l2_2.length c2_2]
  rw [show (List.toArray [Value.slice A2_0 l2_0.length c2_0, Value.slice A2_1 l2_1.length c2_1, Value.slice A2_2 l2_2.length c2_2]) = #[Value.slice A2_0 l2_0.length c2_0, Value.slice A2_1 l2_1.length c2_1, Value.slice A2_2 l2_2.length c2_2] from rfl] at hx1 hs1 hb1
  generalize w.alloc (Obj.cells #[Value.slice A2_0 l2_0.length c2_0, Value.slice A2_1 l2_1.length c2_1, Value.slice A2_2 l2_2.length c2_2] 28) = w1 at hx1 hs1 hb1 ⊢
  refine (ballot_key_right.calls a0 (keyB a0) w1 (right_f a0)).mono ?_
  rintro e w2 ⟨rfl, hb2⟩
  have hx2 := hx1.below hb2 hx1.lt
  have HB2 := Lib.hid (show Below w.heap.size w w2 from hb1.trans (Below.mono hb2 (by omega)))
  have HX2 := Lib.hid hx2
  clear hx1 hs1 hb1 hb2 hx2
  cases hk : keyB a0 with
  | false =>
    have hres := HRES.out
    unfold chkV at hres
    rw [hk, Bool.false_and, if_neg (by decide)] at hres
    simp only [Prod.mk.injEq] at hres
    obtain ⟨rfl, rfl⟩ := hres
    clear hk
    go_wp2_with fail
    refine bodyPost_ret (results_tmp2 rfl _ _ _) rfl ?_
    exact ⟨rfl, HB2.out⟩
  | true =>
    go_wp2_with fail
    refine (ballot_ciphers.calls A1 c1 l1 (ciphsB l1) w2 (Kd.C_below HR.out.1 HB2.out) HR.out.2.2.2.2.1 rfl).mono ?_
    rintro e w3 ⟨rfl, hb3⟩
    have HB3 := Lib.hid (HB2.out.trans (Below.mono hb3 HB2.out.size))
    have hx3 := HX2.out.below hb3 HX2.out.lt
    clear hb3
    cases hci : ciphsB l1 with
    | false =>
      have hres := HRES.out
      unfold chkV at hres
      rw [hci, Bool.and_false, if_neg (by decide)] at hres
      simp only [Prod.mk.injEq] at hres
      obtain ⟨rfl, rfl⟩ := hres
      clear hk hci hx3
      go_wp2_with fail
      refine bodyPost_ret (results_tmp2 rfl _ _ _) rfl ?_
      exact ⟨rfl, HB3.out⟩
    | true =>
      have hres := HRES.out
      unfold chkV at hres
      rw [hk, hci, Bool.and_self, if_pos rfl] at hres
      have HRES2 := Lib.hid hres
      have b0 := hx3.cell 0 _ rfl
      have b1 := hx3.cell 1 _ rfl
      have HX3 := Lib.hid hx3
      clear hres hx3 HRES hk hci HX2 HB2
      go_wp2_with fail
      obtain ⟨⟨bits, er⟩, hask⟩ : ∃ x, askV l1 l2_0 l2_1 = x := ⟨_, rfl⟩
      refine (ballot_Asked.calls A1 c1 l1 A2_0 c2_0 l2_0 A2_1 c2_1 l2_1 bits er w3 (Kd.C_below HR.out.1 HB3.out) HR.out.2.2.2.2.1 (Kd.C_below HR.out.2.1 HB3.out) HR.out.2.2.2.2.2.1 (Kd.C_below HR.out.2.2.1 HB3.out) HR.out.2.2.2.2.2.2.1 (TabOk.below HT.out HB3.out) (by unfold ballot_Asked.f; rw [hask])).mono ?_
      rintro e w4 ⟨v4, rfl, ho4, hb4⟩
      have HB4 := Lib.hid (HB3.out.trans (Below.mono hb4 HB3.out.size))
      have hx4 := HX3.out.below hb4 HX3.out.lt
      have hac := askV_cases l1 l2_0 l2_1
      have hres := HRES2.out
      rw [hask] at hac hres
      simp only at hac hres
      have b2 := hx4.cell 2 _ rfl
      have HX4 := Lib.hid hx4
      have HO4 := Lib.hid ho4
      clear hb4 HX3 HRES2 hask b0 b1 hx4 ho4
      rcases hac with ⟨rfl, hq0, hq1, hq2, hq3⟩ | ⟨rfl, rfl⟩
      · by_cases hlen : l2_2.length = l1.length
        · rw [if_pos ⟨rfl, hlen⟩] at hres
          simp only [Prod.mk.injEq] at hres
          obtain ⟨rfl, rfl⟩ := hres
          have q4 : ((l2_2.length : Int) != (l1.length : Int)) = false := by simp; omega
          have h1 := okL_len hq0
          have h2 := okL_len hq1
          have h3 := okL_len hq2
          obtain ⟨ai, rfl, -, -⟩ := read_ci HR.out.1 (Below.refl _ _) 0 (by omega) (by omega)
          obtain ⟨am, rfl, -, -⟩ := read_ci HR.out.2.1 (Below.refl _ _) 0 (by omega) (by omega)
          obtain ⟨ao, rfl, -, -⟩ := read_ci HR.out.2.2.1 (Below.refl _ _) 0 (by omega) (by omega)
          obtain ⟨al, rfl, -, -, -⟩ := read_l HR.out.2.2.2.1 (Below.refl _ _) 0 (l2_2[0]'(by omega)) (List.getElem?_eq_getElem (by omega))
          obtain ⟨g, cap, rfl, hg1, hg2, cells, hg3⟩ := Kd.R_form HO4.out (by omega)
          have HL := Lib.hid (And.intro hlen (And.intro h1.2 (And.intro h2.1 (And.intro h3.1 hq3))))
          have HG := Lib.hid (And.intro hg1 hg3)
          clear hq0 hq1 hq2 hq3 hlen h1 h2 h3 hg1 hg2 hg3
          go_wp2_with fail
          refine (distinct_calls (l1.length : Int) w4).mono ?_
          rintro e w5 ⟨rfl, hw5⟩
          have hd5 := Dist.new (l1.length : Int) w4
          have hb5 := (((Below.refl _ w4).alloc (Nat.le_refl _) (.cells #[.int .i64 (l1.length : Int)] 3)).alloc (by simp) (.map #[] 0)).alloc (by simp; omega) (.cells #[.map (some (w4.heap.size + 1))] 87)
          have hs5 : w5.heap.size = w4.heap.size + 3 := by rw [hw5]; simp
          rw [← hw5] at hd5 hb5
          have HD5 := Lib.hid (And.intro hd5 (And.intro hb5 hs5))
          clear hw5 hd5 hb5 hs5
          go_wp2_with fail
          refine (distinct_calls (l1.length : Int) w5).mono ?_
          rintro e w6 ⟨rfl, hw6⟩
          have hd6 := Dist.new (l1.length : Int) w5
          have hb6 := (((Below.refl _ w5).alloc (Nat.le_refl _) (.cells #[.int .i64 (l1.length : Int)] 3)).alloc (by simp) (.map #[] 0)).alloc (by simp; omega) (.cells #[.map (some (w5.heap.size + 1))] 87)
          have hs6 : w6.heap.size = w5.heap.size + 3 := by rw [hw6]; simp
          rw [← hw6] at hd6 hb6
          have hg2 := (Array.getElem?_eq_some_iff.1 HG.out.2).1
          have hfr6 : Fr w w.heap.size g [Value.slice (some am) l2_0.length c2_0, Value.slice (some ao) l2_1.length c2_1, Value.slice (some al) l2_2.length c2_2] cells.toList w6 := by
            have hfr4 : Fr w w.heap.size g [Value.slice (some am) l2_0.length c2_0, Value.slice (some ao) l2_1.length c2_1, Value.slice (some al) l2_2.length c2_2] cells.toList w4 := ⟨HB4.out, HX4.out, by unfold Blk; exact HG.out.2⟩
            exact (hfr4.below HD5.out.2.1 (Nat.le_refl _)).below hb6 (Nat.le_refl _)
          have hdl := HD5.out.1.below hb6 (by have := HD5.out.2.2; omega)
          have hbn : w4.heap.size + 3 = w5.heap.size ∧ w5.heap.size + 3 = w6.heap.size ∧ g < w4.heap.size ∧ w.heap.size < w4.heap.size := by
            have e1 := HD5.out.2.2
            have e2 := HX4.out.lt
            omega
          have HCL := Lib.hid (fun (j : Nat) (hj : j < bits.length) => (Kd.R_celln false HO4.out (j : Int) (by omega) (by omega)).1)
          have HCW := Lib.hid (show w4.heap[g]? = some (.cells cells 4 (0, 0)) from HG.out.2)
          have H6 := Lib.hid (And.intro hfr6 (And.intro hdl (And.intro hd6 hbn)))
          clear HD5 hd6 hb6 hs6 hw6 hg2 hfr6 hdl hbn
          have b2 := H6.out.1.m.cell 2 _ rfl
          have eg := enters_dist
          go_wp2_with fail
          go_loopw [52] (fun i wr => ∃ (k : Nat) (L R : List Int), k ≤ l2_2.length ∧ i = .int .i64 k ∧ Hid (chkF a0 l1 l2_0 l2_1 bits 0 [] [] l2_2 = chkF a0 l1 l2_0 l2_1 bits k L R (l2_2.drop k)) ∧ Hid (Fr w w.heap.size g [Value.slice (some am) l2_0.length c2_0, Value.slice (some ao) l2_1.length c2_1, Value.slice (some al) l2_2.length c2_2] cells.toList wr ∧ w6.heap.size ≤ wr.heap.size) ∧ Hid (Dist wr w4.heap.size (l1.length : Int) L ∧ Dist wr w5.heap.size (l1.length : Int) R)) (fun i _ => l2_2.length - (intOf i).toNat)
          case atStart => exact ⟨0, [], [], Nat.zero_le _, rfl, rfl, ⟨H6.out.1, Nat.le_refl _⟩, ⟨H6.out.2.1, H6.out.2.2.1⟩⟩
          case round =>
            obtain ⟨k, L, R, hk, rfl, hc, hfr, hds⟩ := hrel
            by_cases hlt : k < l2_2.length
            · obtain ⟨x, hxk⟩ : ∃ x, l2_2[k]? = some x := ⟨l2_2[k], List.getElem?_eq_getElem hlt⟩
              have hrl := HR.out.2.2.2.1
              obtain ⟨ad, e, hl0, hl1, hl2⟩ := read_l hrl hfr.out.1.b k x hxk
              cases e
              have hstep : chkF a0 l1 l2_0 l2_1 bits k L R (l2_2.drop k) = (chkAt a0 l1 l2_0 l2_1 bits k x L R && (if rdOf false bits (k : Int) = true then chkF a0 l1 l2_0 l2_1 bits (k + 1) L (R ++ [x.f1]) (l2_2.drop (k + 1)) else chkF a0 l1 l2_0 l2_1 bits (k + 1) (L ++ [x.f0]) R (l2_2.drop (k + 1)))) := by
                have e : l2_2.drop k = x :: l2_2.drop (k + 1) := by
                  rw [List.drop_eq_getElem_cons hlt]
                  congr 1
                  have := List.getElem?_eq_getElem hlt
                  rw [hxk] at this
                  exact (Option.some.inj this).symm
                rw [e]
                rfl
              have HST := Lib.hid (hc.out.trans hstep)
              clear hrl hstep hc hxk
              have hkl : k < bits.length := by have := HL.out; omega
              have hkb : (k : Int) < (bits.length : Int) := by omega
              go_wp2_with fail
              obtain ⟨hx7, hs7, hb7⟩ := Blk.box wr 53 [Value.int IntKind.i64 x.f0, Value.int IntKind.i64 x.f1, Value.int IntKind.i64 x.f2]
              rw [show (List.toArray [Value.int IntKind.i64 x.f0, Value.int IntKind.i64 x.f1, Value.int IntKind.i64 x.f2]) = #[Value.int IntKind.i64 x.f0, Value.int IntKind.i64 x.f1, Value.int IntKind.i64 x.f2] from rfl] at hx7 hs7 hb7
              generalize wr.alloc (Obj.cells #[Value.int IntKind.i64 x.f0, Value.int IntKind.i64 x.f1, Value.int IntKind.i64 x.f2] 53) = w7 at hx7 hs7 hb7 ⊢
              have hf7 := hfr.out.1.below hb7 (Nat.le_refl _)
              have hdL := hds.out.1.below hb7 (by have := H6.out.2.2.2; have := hfr.out.2; omega)
              have hdR := hds.out.2.below hb7 (by have := H6.out.2.2.2; have := hfr.out.2; omega)
              have H7 := Lib.hid (And.intro hf7 (And.intro hdL (And.intro hdR (And.intro hx7 (And.intro hs7 hfr.out.2)))))
              clear hx7 hs7 hb7 hf7 hdL hdR hl0 hl1 hl2
              have hS : ∀ W, Held (fun W => Fr w w.heap.size g [Value.slice (some am) l2_0.length c2_0, Value.slice (some ao) l2_1.length c2_1, Value.slice (some al) l2_2.length c2_2] cells.toList W ∧ Blk W wr.heap.size 53 [Value.int IntKind.i64 x.f0, Value.int IntKind.i64 x.f1, Value.int IntKind.i64 x.f2]) W →
                  W.cell? ⟨g, k, none⟩ = some (.bool (rdOf false bits (k : Int))) ∧ W.cell? ⟨wr.heap.size, 0, none⟩ = some (.int .i64 x.f0) ∧ W.cell? ⟨wr.heap.size, 1, none⟩ = some (.int .i64 x.f1) ∧ W.cell? ⟨wr.heap.size, 2, none⟩ = some (.int .i64 x.f2) ∧ W.cell? ⟨w.heap.size, 0, none⟩ = some (.slice (some am) l2_0.length c2_0) ∧ W.cell? ⟨w.heap.size, 1, none⟩ = some (.slice (some ao) l2_1.length c2_1) := fun W hW => by
                have h0 := HCL.out k hkl
                rw [Int.toNat_natCast] at h0
                have h1 : W.cell? ⟨g, k, none⟩ = w4.cell? ⟨g, k, none⟩ := by
                  have e := hW.1.a
                  unfold Blk at e
                  simp [World.cell?, e, HCW.out]
                exact ⟨h1.trans h0, hW.2.cell 0 _ rfl, hW.2.cell 1 _ rfl, hW.2.cell 2 _ rfl, hW.1.m.cell 0 _ rfl, hW.1.m.cell 1 _ rfl⟩
              have hrc : ∀ (A : Addr) (l : List S23) (i : Int), Kd.C k23 w (some A) l.length l → 0 ≤ i → i < l.length → ∀ W, Held (fun W => Fr w w.heap.size g [Value.slice (some am) l2_0.length c2_0, Value.slice (some ao) l2_1.length c2_1, Value.slice (some al) l2_2.length c2_2] cells.toList W ∧ Blk W wr.heap.size 53 [Value.int IntKind.i64 x.f0, Value.int IntKind.i64 x.f1, Value.int IntKind.i64 x.f2]) W → W.cell? (A.add (i.toNat * 2)) = some (.int .i64 (rd_T23 l i).f0) ∧ W.cell? ⟨(A.add (i.toNat * 2)).block, (A.add (i.toNat * 2)).off + 1, none⟩ = some (.int .i64 (rd_T23 l i).f1) := fun A l i hC h0 h1 W hW => by
                obtain ⟨ad, e, h2, h3⟩ := read_ci hC hW.1.b i h0 h1
                cases e
                exact ⟨h2, h3⟩
              have HRC := Lib.hid hrc
              clear hrc
              have hk2 : (k : Int) < (l2_0.length : Int) := by have := HL.out; omega
              by_cases hbit : rdOf false bits (k : Int) = true
              · rw [if_pos hbit] at HST
                have hat : chkAt a0 l1 l2_0 l2_1 bits k x L R = (x.f0 == (k : Int) && (okD l1.length R x.f1 && conB a0 (rd_T23 l2_0 (k : Int)).f0 (rd_T23 l2_0 (k : Int)).f1 (rd_T23 l2_1 x.f1).f0 (rd_T23 l2_1 x.f1).f1 x.f2)) := by unfold chkAt; rw [if_pos hbit]
                rw [hat] at HST
                have HST := Lib.hid HST.out
                rw [hbit] at hS
                clear hat hbit
                by_cases hx0 : x.f0 = (k : Int)
                · have d1 : (x.f0 != (k : Int)) = false := by simpa using hx0
                  have HX0 := Lib.hid (show (x.f0 == (k : Int)) = true by simpa using hx0)
                  clear hx0
                  cases hok : okD l1.length R x.f1 with
                  | false =>
                    refine wp_region_auto (fun W => Fr w w.heap.size g [Value.slice (some am) l2_0.length c2_0, Value.slice (some ao) l2_1.length c2_1, Value.slice (some al) l2_2.length c2_2] cells.toList W ∧ Blk W wr.heap.size 53 [Value.int IntKind.i64 x.f0, Value.int IntKind.i64 x.f1, Value.int IntKind.i64 x.f2]) ((0, none, none) :: (0, none, none) :: (0, none, none) :: (0, none, none) :: (0, none, none) :: (0, some (62, true), none) :: (0, some (62, true), none) :: (0, some (62, true), none) :: (0, some (62, true), none) :: (0, some (62, true), none) :: (0, some (67, false), none) :: (0, some (67, false), none) :: (0, some (67, false), none) :: (0, some (67, false), some true) :: (0, some (67, false), none) :: (0, some (62, true), none) :: (0, some (62, true), none) :: (0, some (74, false), none) :: (0, some (74, false), none) :: (0, some (74, false), none) :: (0, some (74, false), none) :: (0, some (74, false), none) :: (0, some (74, false), none) :: (0, some (74, false), none) :: (0, some (74, false), none) :: (0, some (74, false), none) :: (0, some (74, false), none) :: (0, some (74, false), none) :: (0, some (74, false), none) :: (0, some (74, false), none) :: (0, some (74, false), none) :: (0, some (74, false), some true) :: (0, some (74, false), none) :: (0, some (62, true), none) :: (0, none, none) :: (0, none, none) :: []) (by kernel_rfl) (by kernel_rfl) (fun _ _ d _ _ h => by cases d <;> exact h) ?_ ?_
                    · exact ⟨H7.out.1.below (below_drew (Below.refl w7.heap.size w7)) (Nat.le_refl _), H7.out.2.2.2.1.drew⟩
                    repeat' (first
                      | (with_reducible apply rel_pass
                         focus (intro W hW; first | (go_simp; exact rfl) | go_simp)
                         simp only [Act.put, List.setIfInBounds_toArray, List.set_cons_zero, List.set_cons_succ])
                      | (with_reducible apply rel_yes
                         focus (exact rfl))
                      | (with_reducible apply rel_no
                         focus (exact rfl)
                         simp only [Act.put, List.setIfInBounds_toArray, List.set_cons_zero, List.set_cons_succ])
                      | (with_reducible apply rel_askF
                         focus (exact rfl)
                         all_goals (intro hb; simp only [hb, Act.put, List.setIfInBounds_toArray, List.set_cons_zero, List.set_cons_succ]))
                      | (with_reducible apply rel_askT
                         focus (exact rfl)
                         all_goals (intro hb; simp only [hb, Act.put, List.setIfInBounds_toArray, List.set_cons_zero, List.set_cons_succ]))
                      | (with_reducible apply rel_front1)
                      | (with_reducible apply rel_front2)
                      | (with_reducible apply rel_front3)
                      | (with_reducible apply rel_front4)
                      | (with_reducible apply rel_front5)
                      | (with_reducible apply rel_front6))
                    with_reducible apply rel_act
                    intro K hK
                    go_simp
                    have C := dist_step x.f1 _ w5.heap.size (l1.length : Int) R (H7.out.2.2.1.below (below_drew (Below.refl w7.heap.size w7)) (by have := H6.out.2.2.2; have := H7.out.2.2.2.2; omega))
                    rw [hok] at C
                    refine C.mono ?_
                    clear C
                    rintro e w8 ⟨rfl, hd8, hg8⟩
                    have hsz7 : w7.heap.size ≤ w8.heap.size := hg8.size
                    have hf8 : Fr w w.heap.size g [Value.slice (some am) l2_0.length c2_0, Value.slice (some ao) l2_1.length c2_1, Value.slice (some al) l2_2.length c2_2] cells.toList w8 := (H7.out.1.below (below_drew (Below.refl w7.heap.size w7)) (Nat.le_refl _)).grown hg8 (by have := H6.out.2.2.2; omega) (by have := H6.out.2.2.2; omega) (by have := H6.out.2.2.2; omega)
                    have hx8 : Blk w8 wr.heap.size 53 [Value.int IntKind.i64 x.f0, Value.int IntKind.i64 x.f1, Value.int IntKind.i64 x.f2] := (H7.out.2.2.2.1.drew).grown hg8 (by have := H6.out.2.2.2; have := H7.out.2.2.2.2; simp only [ne_eq, Option.some.injEq]; omega)
                    have ho8 : Dist w8 w4.heap.size (l1.length : Int) L := (H7.out.2.1.below (below_drew (Below.refl w7.heap.size w7)) (by have := H6.out.2.2.2; have := H7.out.2.2.2.2; omega)).apart hg8 (by have := H6.out.2.2.2; omega)
                    have hs8 : w6.heap.size ≤ w8.heap.size := by have := H7.out.2.2.2.2; omega
                    have H8 := Lib.hid (And.intro hf8 (And.intro hx8 (And.intro hd8 (And.intro ho8 hs8))))
                    clear hf8 hx8 hd8 ho8 hs8 hg8 hsz7
                    refine hK _ _ ⟨fun _ => ⟨H8.out.1, H8.out.2.1⟩, ?_⟩
                    clear hK K
                    try simp only [Act.put, List.setIfInBounds_toArray, List.set_cons_zero, List.set_cons_succ]
                    repeat' (first
                      | (with_reducible apply rel_pass
                         focus (intro W hW; first | (go_simp; exact rfl) | go_simp)
                         simp only [Act.put, List.setIfInBounds_toArray, List.set_cons_zero, List.set_cons_succ])
                      | (with_reducible apply rel_yes
                         focus (exact rfl))
                      | (with_reducible apply rel_no
                         focus (exact rfl)
                         simp only [Act.put, List.setIfInBounds_toArray, List.set_cons_zero, List.set_cons_succ])
                      | (with_reducible apply rel_askF
                         focus (exact rfl)
                         all_goals (intro hb; simp only [hb, Act.put, List.setIfInBounds_toArray, List.set_cons_zero, List.set_cons_succ]))
                      | (with_reducible apply rel_askT
                         focus (exact rfl)
                         all_goals (intro hb; simp only [hb, Act.put, List.setIfInBounds_toArray, List.set_cons_zero, List.set_cons_succ]))
                      | (with_reducible apply rel_front1)
                      | (with_reducible apply rel_front2)
                      | (with_reducible apply rel_front3)
                      | (with_reducible apply rel_front4)
                      | (with_reducible apply rel_front5)
                      | (with_reducible apply rel_front6))
                    apply rel_nil
                    simp only [Exit.then, Exit.inBlock]
                    go_wp2_with fail
                    refine bodyPost_ret (results_tmp2 rfl _ _ _) rfl ?_
                    exact ⟨by rw [HST.out, HX0.out, hok]; simp, H8.out.1.b⟩
                  | true =>
                    have hin : 0 ≤ x.f1 ∧ x.f1 < (l1.length : Int) := by simp only [okD, Bool.and_eq_true, decide_eq_true_eq] at hok; exact ⟨hok.1, hok.2.1⟩
                    obtain ⟨in0, in1⟩ := hin
                    have in2 : x.f1 < (l2_1.length : Int) := by have := HL.out; omega
                    have hm := HRC.out am l2_0 (k : Int) HR.out.2.1 (by omega) hk2
                    have ho := HRC.out ao l2_1 x.f1 HR.out.2.2.1 in0 in2
                    simp only [Int.toNat_natCast] at hm
                    have hcv := connects_f a0 (rd_T23 l2_0 (k : Int)).f0 (rd_T23 l2_0 (k : Int)).f1 (rd_T23 l2_1 x.f1).f0 (rd_T23 l2_1 x.f1).f1 x.f2
                    obtain ⟨cv, hcvd⟩ : ∃ cv, conB a0 (rd_T23 l2_0 (k : Int)).f0 (rd_T23 l2_0 (k : Int)).f1 (rd_T23 l2_1 x.f1).f0 (rd_T23 l2_1 x.f1).f1 x.f2 = cv := ⟨_, rfl⟩
                    rw [hcvd] at hcv
                    have HCV := Lib.hid (And.intro hcv hcvd)
                    clear hcv hcvd
                    refine wp_region_auto (fun W => Fr w w.heap.size g [Value.slice (some am) l2_0.length c2_0, Value.slice (some ao) l2_1.length c2_1, Value.slice (some al) l2_2.length c2_2] cells.toList W ∧ Blk W wr.heap.size 53 [Value.int IntKind.i64 x.f0, Value.int IntKind.i64 x.f1, Value.int IntKind.i64 x.f2]) ((0, none, none) :: (0, none, none) :: (0, none, none) :: (0, none, none) :: (0, none, none) :: (0, some (62, true), none) :: (0, some (62, true), none) :: (0, some (62, true), none) :: (0, some (62, true), none) :: (0, some (62, true), none) :: (0, some (67, false), none) :: (0, some (67, false), none) :: (0, some (67, false), none) :: (0, some (67, false), some true) :: (0, some (67, false), none) :: (0, some (62, true), none) :: (0, some (62, true), none) :: (0, some (74, false), none) :: (0, some (74, false), none) :: (0, some (74, false), none) :: (0, some (74, false), none) :: (0, some (74, false), none) :: (0, some (74, false), none) :: (0, some (74, false), none) :: (0, some (74, false), none) :: (0, some (74, false), none) :: (0, some (74, false), none) :: (0, some (74, false), none) :: (0, some (74, false), none) :: (0, some (74, false), none) :: (0, some (74, false), none) :: (0, some (74, false), some true) :: (0, some (74, false), none) :: (0, some (62, true), none) :: (0, none, none) :: (0, none, none) :: []) (by kernel_rfl) (by kernel_rfl) (fun _ _ d _ _ h => by cases d <;> exact h) ?_ ?_
                    · exact ⟨H7.out.1.below (below_drew (Below.refl w7.heap.size w7)) (Nat.le_refl _), H7.out.2.2.2.1.drew⟩
                    repeat' (first
                      | (with_reducible apply rel_pass
                         focus (intro W hW; first | (go_simp; exact rfl) | go_simp)
                         simp only [Act.put, List.setIfInBounds_toArray, List.set_cons_zero, List.set_cons_succ])
                      | (with_reducible apply rel_yes
                         focus (exact rfl))
                      | (with_reducible apply rel_no
                         focus (exact rfl)
                         simp only [Act.put, List.setIfInBounds_toArray, List.set_cons_zero, List.set_cons_succ])
                      | (with_reducible apply rel_askF
                         focus (exact rfl)
                         all_goals (intro hb; simp only [hb, Act.put, List.setIfInBounds_toArray, List.set_cons_zero, List.set_cons_succ]))
                      | (with_reducible apply rel_askT
                         focus (exact rfl)
                         all_goals (intro hb; simp only [hb, Act.put, List.setIfInBounds_toArray, List.set_cons_zero, List.set_cons_succ]))
                      | (with_reducible apply rel_front1)
                      | (with_reducible apply rel_front2)
                      | (with_reducible apply rel_front3)
                      | (with_reducible apply rel_front4)
                      | (with_reducible apply rel_front5)
                      | (with_reducible apply rel_front6))
                    with_reducible apply rel_act
                    intro K hK
                    go_simp
                    have C := dist_step x.f1 _ w5.heap.size (l1.length : Int) R (H7.out.2.2.1.below (below_drew (Below.refl w7.heap.size w7)) (by have := H6.out.2.2.2; have := H7.out.2.2.2.2; omega))
                    rw [hok] at C
                    refine C.mono ?_
                    clear C
                    rintro e w8 ⟨rfl, hd8, hg8⟩
                    have hsz7 : w7.heap.size ≤ w8.heap.size := hg8.size
                    have hf8 : Fr w w.heap.size g [Value.slice (some am) l2_0.length c2_0, Value.slice (some ao) l2_1.length c2_1, Value.slice (some al) l2_2.length c2_2] cells.toList w8 := (H7.out.1.below (below_drew (Below.refl w7.heap.size w7)) (Nat.le_refl _)).grown hg8 (by have := H6.out.2.2.2; omega) (by have := H6.out.2.2.2; omega) (by have := H6.out.2.2.2; omega)
                    have hx8 : Blk w8 wr.heap.size 53 [Value.int IntKind.i64 x.f0, Value.int IntKind.i64 x.f1, Value.int IntKind.i64 x.f2] := (H7.out.2.2.2.1.drew).grown hg8 (by have := H6.out.2.2.2; have := H7.out.2.2.2.2; simp only [ne_eq, Option.some.injEq]; omega)
                    have ho8 : Dist w8 w4.heap.size (l1.length : Int) L := (H7.out.2.1.below (below_drew (Below.refl w7.heap.size w7)) (by have := H6.out.2.2.2; have := H7.out.2.2.2.2; omega)).apart hg8 (by have := H6.out.2.2.2; omega)
                    have hs8 : w6.heap.size ≤ w8.heap.size := by have := H7.out.2.2.2.2; omega
                    have H8 := Lib.hid (And.intro hf8 (And.intro hx8 (And.intro hd8 (And.intro ho8 hs8))))
                    clear hf8 hx8 hd8 ho8 hs8 hg8 hsz7
                    refine hK _ _ ⟨fun _ => ⟨H8.out.1, H8.out.2.1⟩, ?_⟩
                    clear hK K
                    try simp only [Act.put, List.setIfInBounds_toArray, List.set_cons_zero, List.set_cons_succ]
                    repeat' (first
                      | (with_reducible apply rel_pass
                         focus (intro W hW; first | (go_simp; exact rfl) | go_simp)
                         simp only [Act.put, List.setIfInBounds_toArray, List.set_cons_zero, List.set_cons_succ])
                      | (with_reducible apply rel_yes
                         focus (exact rfl))
                      | (with_reducible apply rel_no
                         focus (exact rfl)
                         simp only [Act.put, List.setIfInBounds_toArray, List.set_cons_zero, List.set_cons_succ])
                      | (with_reducible apply rel_askF
                         focus (exact rfl)
                         all_goals (intro hb; simp only [hb, Act.put, List.setIfInBounds_toArray, List.set_cons_zero, List.set_cons_succ]))
                      | (with_reducible apply rel_askT
                         focus (exact rfl)
                         all_goals (intro hb; simp only [hb, Act.put, List.setIfInBounds_toArray, List.set_cons_zero, List.set_cons_succ]))
                      | (with_reducible apply rel_front1)
                      | (with_reducible apply rel_front2)
                      | (with_reducible apply rel_front3)
                      | (with_reducible apply rel_front4)
                      | (with_reducible apply rel_front5)
                      | (with_reducible apply rel_front6))
                    with_reducible apply rel_act
                    intro K hK
                    go_simp
                    refine (ballot_key_connects.calls a0 (rd_T23 l2_0 (k : Int)).f0 (rd_T23 l2_0 (k : Int)).f1 (rd_T23 l2_1 x.f1).f0 (rd_T23 l2_1 x.f1).f1 x.f2 cv w8 HCV.out.1).mono ?_
                    rintro e w9 ⟨rfl, hb9⟩
                    have H9 := Lib.hid (And.intro (H8.out.1.below hb9 (Nat.le_refl _)) (And.intro (H8.out.2.1.below hb9 H8.out.2.1.lt) (And.intro (H8.out.2.2.1.below hb9 (by have := H6.out.2.2.2; have := H8.out.2.2.2.2; omega)) (And.intro (H8.out.2.2.2.1.below hb9 (by have := H6.out.2.2.2; have := H8.out.2.2.2.2; omega)) (Nat.le_trans H8.out.2.2.2.2 hb9.size)))))
                    clear hb9
                    refine hK _ _ ⟨fun _ => ⟨H9.out.1, H9.out.2.1⟩, ?_⟩
                    clear hK K
                    try simp only [Act.put, List.setIfInBounds_toArray, List.set_cons_zero, List.set_cons_succ]
                    repeat' (first
                      | (with_reducible apply rel_pass
                         focus (intro W hW; first | (go_simp; exact rfl) | go_simp)
                         simp only [Act.put, List.setIfInBounds_toArray, List.set_cons_zero, List.set_cons_succ])
                      | (with_reducible apply rel_yes
                         focus (exact rfl))
                      | (with_reducible apply rel_no
                         focus (exact rfl)
                         simp only [Act.put, List.setIfInBounds_toArray, List.set_cons_zero, List.set_cons_succ])
                      | (with_reducible apply rel_askF
                         focus (exact rfl)
                         all_goals (intro hb; simp only [hb, Act.put, List.setIfInBounds_toArray, List.set_cons_zero, List.set_cons_succ]))
                      | (with_reducible apply rel_askT
                         focus (exact rfl)
                         all_goals (intro hb; simp only [hb, Act.put, List.setIfInBounds_toArray, List.set_cons_zero, List.set_cons_succ]))
                      | (with_reducible apply rel_front1)
                      | (with_reducible apply rel_front2)
                      | (with_reducible apply rel_front3)
                      | (with_reducible apply rel_front4)
                      | (with_reducible apply rel_front5)
                      | (with_reducible apply rel_front6))
                    apply rel_nil
                    simp only [Exit.then, Exit.inBlock]
                    cases cv with
                    | false =>
                      go_wp2_with fail
                      refine bodyPost_ret (results_tmp2 rfl _ _ _) rfl ?_
                      exact ⟨by rw [HST.out, HX0.out, hok, HCV.out.2]; simp, H9.out.1.b⟩
                    | true =>
                      have HST2 := Lib.hid (show chkF a0 l1 l2_0 l2_1 bits 0 [] [] l2_2 = chkF a0 l1 l2_0 l2_1 bits (k + 1) L (R ++ [x.f1]) (l2_2.drop (k + 1)) by rw [HST.out, HX0.out, hok, HCV.out.2]; simp)
                      have hks : ksD l1.length R x.f1 = R ++ [x.f1] := by unfold ksD; rw [if_pos hok]
                      have hd9 := H9.out.2.2.1
                      rw [hks] at hd9
                      have HD9 := Lib.hid hd9
                      clear hd9 hks hm ho in0 in1 HST hok
                      go_wp2_with fail
                      refine wp_region_auto (fun W => Fr w w.heap.size g [Value.slice (some am) l2_0.length c2_0, Value.slice (some ao) l2_1.length c2_1, Value.slice (some al) l2_2.length c2_2] cells.toList W ∧ Blk W wr.heap.size 53 [Value.int IntKind.i64 x.f0, Value.int IntKind.i64 x.f1, Value.int IntKind.i64 x.f2]) ((0, none, none) :: (0, none, none) :: (0, none, none) :: (0, none, none) :: (0, none, none) :: (0, none, none) :: (0, some (99, true), none) :: (0, some (99, true), none) :: (0, some (99, true), none) :: (0, some (99, true), none) :: (0, some (99, true), none) :: (0, some (104, false), none) :: (0, some (104, false), none) :: (0, some (104, false), none) :: (0, some (104, false), some true) :: (0, some (104, false), none) :: (0, some (99, true), none) :: (0, some (99, true), none) :: (0, some (111, false), none) :: (0, some (111, false), none) :: (0, some (111, false), none) :: (0, some (111, false), none) :: (0, some (111, false), none) :: (0, some (111, false), none) :: (0, some (111, false), none) :: (0, some (111, false), none) :: (0, some (111, false), none) :: (0, some (111, false), none) :: (0, some (111, false), none) :: (0, some (111, false), none) :: (0, some (111, false), none) :: (0, some (111, false), some true) :: (0, some (111, false), none) :: (0, some (99, true), none) :: (0, none, none) :: (0, none, none) :: []) (by kernel_rfl) (by kernel_rfl) (fun _ _ d _ _ h => by cases d <;> exact h) ?_ ?_
                      · exact ⟨H9.out.1.below (below_drew (Below.refl w9.heap.size w9)) (Nat.le_refl _), H9.out.2.1.drew⟩
                      repeat' (first
                        | (with_reducible apply rel_pass
                           focus (intro W hW; first | (go_simp; exact rfl) | go_simp)
                           simp only [Act.put, List.setIfInBounds_toArray, List.set_cons_zero, List.set_cons_succ])
                        | (with_reducible apply rel_yes
                           focus (exact rfl))
                        | (with_reducible apply rel_no
                           focus (exact rfl)
                           simp only [Act.put, List.setIfInBounds_toArray, List.set_cons_zero, List.set_cons_succ])
                        | (with_reducible apply rel_askF
                           focus (exact rfl)
                           all_goals (intro hb; simp only [hb, Act.put, List.setIfInBounds_toArray, List.set_cons_zero, List.set_cons_succ]))
                        | (with_reducible apply rel_askT
                           focus (exact rfl)
                           all_goals (intro hb; simp only [hb, Act.put, List.setIfInBounds_toArray, List.set_cons_zero, List.set_cons_succ]))
                        | (with_reducible apply rel_front1)
                        | (with_reducible apply rel_front2)
                        | (with_reducible apply rel_front3)
                        | (with_reducible apply rel_front4)
                        | (with_reducible apply rel_front5)
                        | (with_reducible apply rel_front6))
                      apply rel_nil
                      simp only [Exit.then, Exit.inBlock]
                      go_wp2_with fail
                      have HWJ := Lib.hid (show wrap64 ((k : Int) + 1) = ((k + 1 : Nat) : Int) by have := HL.out; unfold wrap64; omega)
                      refine ⟨⟨k + 1, L, R ++ [x.f1], by omega, by first | rw [HWJ.out] | rfl, HST2, ⟨H9.out.1.below (below_drew (Below.refl w9.heap.size w9)) (Nat.le_refl _), H9.out.2.2.2.2⟩, ⟨H9.out.2.2.2.1.below (below_drew (Below.refl w9.heap.size w9)) (by have := H6.out.2.2.2; have := H9.out.2.2.2.2; omega), HD9.out.below (below_drew (Below.refl w9.heap.size w9)) (by have := H6.out.2.2.2; have := H9.out.2.2.2.2; omega)⟩⟩, ?_⟩
                      try rw [HWJ.out]
                      simp only [intOf, Int.toNat_natCast]
                      omega
                · have d1 : (x.f0 != (k : Int)) = true := by simpa using hx0
                  have HX0 := Lib.hid (show (x.f0 == (k : Int)) = false by simpa using hx0)
                  clear hx0
                  refine wp_region_auto (fun W => Fr w w.heap.size g [Value.slice (some am) l2_0.length c2_0, Value.slice (some ao) l2_1.length c2_1, Value.slice (some al) l2_2.length c2_2] cells.toList W ∧ Blk W wr.heap.size 53 [Value.int IntKind.i64 x.f0, Value.int IntKind.i64 x.f1, Value.int IntKind.i64 x.f2]) ((0, none, none) :: (0, none, none) :: (0, none, none) :: (0, none, none) :: (0, none, none) :: (0, some (62, true), none) :: (0, some (62, true), none) :: (0, some (62, true), none) :: (0, some (62, true), none) :: (0, some (62, true), none) :: (0, some (67, false), none) :: (0, some (67, false), none) :: (0, some (67, false), none) :: (0, some (67, false), some true) :: (0, some (67, false), none) :: (0, some (62, true), none) :: (0, some (62, true), none) :: (0, some (74, false), none) :: (0, some (74, false), none) :: (0, some (74, false), none) :: (0, some (74, false), none) :: (0, some (74, false), none) :: (0, some (74, false), none) :: (0, some (74, false), none) :: (0, some (74, false), none) :: (0, some (74, false), none) :: (0, some (74, false), none) :: (0, some (74, false), none) :: (0, some (74, false), none) :: (0, some (74, false), none) :: (0, some (74, false), none) :: (0, some (74, false), some true) :: (0, some (74, false), none) :: (0, some (62, true), none) :: (0, none, none) :: (0, none, none) :: []) (by kernel_rfl) (by kernel_rfl) (fun _ _ d _ _ h => by cases d <;> exact h) ?_ ?_
                  · exact ⟨H7.out.1.below (below_drew (Below.refl w7.heap.size w7)) (Nat.le_refl _), H7.out.2.2.2.1.drew⟩
                  repeat' (first
                    | (with_reducible apply rel_pass
                       focus (intro W hW; first | (go_simp; exact rfl) | go_simp)
                       simp only [Act.put, List.setIfInBounds_toArray, List.set_cons_zero, List.set_cons_succ])
                    | (with_reducible apply rel_yes
                       focus (exact rfl))
                    | (with_reducible apply rel_no
                       focus (exact rfl)
                       simp only [Act.put, List.setIfInBounds_toArray, List.set_cons_zero, List.set_cons_succ])
                    | (with_reducible apply rel_askF
                       focus (exact rfl)
                       all_goals (intro hb; simp only [hb, Act.put, List.setIfInBounds_toArray, List.set_cons_zero, List.set_cons_succ]))
                    | (with_reducible apply rel_askT
                       focus (exact rfl)
                       all_goals (intro hb; simp only [hb, Act.put, List.setIfInBounds_toArray, List.set_cons_zero, List.set_cons_succ]))
                    | (with_reducible apply rel_front1)
                    | (with_reducible apply rel_front2)
                    | (with_reducible apply rel_front3)
                    | (with_reducible apply rel_front4)
                    | (with_reducible apply rel_front5)
                    | (with_reducible apply rel_front6))
                  apply rel_nil
                  simp only [Exit.then, Exit.inBlock]
                  go_wp2_with fail
                  refine bodyPost_ret (results_tmp2 rfl _ _ _) rfl ?_
                  exact ⟨by rw [HST.out, HX0.out]; simp, (H7.out.1.below (below_drew (Below.refl w7.heap.size w7)) (Nat.le_refl _)).b⟩
              · rw [if_neg hbit] at HST
                have hat : chkAt a0 l1 l2_0 l2_1 bits k x L R = (x.f1 == (k : Int) && (okD l1.length L x.f0 && conB a0 (rd_T23 l1 x.f0).f0 (rd_T23 l1 x.f0).f1 (rd_T23 l2_0 (k : Int)).f0 (rd_T23 l2_0 (k : Int)).f1 x.f2)) := by unfold chkAt; rw [if_neg hbit]
                rw [hat] at HST
                have HST := Lib.hid HST.out
                rw [show rdOf false bits (k : Int) = false from by simpa using hbit] at hS
                clear hat hbit
                refine wp_region_auto (fun W => Fr w w.heap.size g [Value.slice (some am) l2_0.length c2_0, Value.slice (some ao) l2_1.length c2_1, Value.slice (some al) l2_2.length c2_2] cells.toList W ∧ Blk W wr.heap.size 53 [Value.int IntKind.i64 x.f0, Value.int IntKind.i64 x.f1, Value.int IntKind.i64 x.f2]) ((0, none, none) :: (0, none, none) :: (0, none, none) :: (0, none, none) :: (0, none, none) :: (0, some (62, true), none) :: (0, some (62, true), none) :: (0, some (62, true), none) :: (0, some (62, true), none) :: (0, some (62, true), none) :: (0, some (67, false), none) :: (0, some (67, false), none) :: (0, some (67, false), none) :: (0, some (67, false), some true) :: (0, some (67, false), none) :: (0, some (62, true), none) :: (0, some (62, true), none) :: (0, some (74, false), none) :: (0, some (74, false), none) :: (0, some (74, false), none) :: (0, some (74, false), none) :: (0, some (74, false), none) :: (0, some (74, false), none) :: (0, some (74, false), none) :: (0, some (74, false), none) :: (0, some (74, false), none) :: (0, some (74, false), none) :: (0, some (74, false), none) :: (0, some (74, false), none) :: (0, some (74, false), none) :: (0, some (74, false), none) :: (0, some (74, false), some true) :: (0, some (74, false), none) :: (0, some (62, true), none) :: (0, none, none) :: (0, none, none) :: []) (by kernel_rfl) (by kernel_rfl) (fun _ _ d _ _ h => by cases d <;> exact h) ?_ ?_
                · exact ⟨H7.out.1.below (below_drew (Below.refl w7.heap.size w7)) (Nat.le_refl _), H7.out.2.2.2.1.drew⟩
                repeat' (first
                  | (with_reducible apply rel_pass
                     focus (intro W hW; first | (go_simp; exact rfl) | go_simp)
                     simp only [Act.put, List.setIfInBounds_toArray, List.set_cons_zero, List.set_cons_succ])
                  | (with_reducible apply rel_yes
                     focus (exact rfl))
                  | (with_reducible apply rel_no
                     focus (exact rfl)
                     simp only [Act.put, List.setIfInBounds_toArray, List.set_cons_zero, List.set_cons_succ])
                  | (with_reducible apply rel_askF
                     focus (exact rfl)
                     all_goals (intro hb; simp only [hb, Act.put, List.setIfInBounds_toArray, List.set_cons_zero, List.set_cons_succ]))
                  | (with_reducible apply rel_askT
                     focus (exact rfl)
                     all_goals (intro hb; simp only [hb, Act.put, List.setIfInBounds_toArray, List.set_cons_zero, List.set_cons_succ]))
                  | (with_reducible apply rel_front1)
                  | (with_reducible apply rel_front2)
                  | (with_reducible apply rel_front3)
                  | (with_reducible apply rel_front4)
                  | (with_reducible apply rel_front5)
                  | (with_reducible apply rel_front6))
                apply rel_nil
                simp only [Exit.then, Exit.inBlock]
                go_wp2_with fail
                by_cases hx0 : x.f1 = (k : Int)
                · have d1 : (x.f1 != (k : Int)) = false := by simpa using hx0
                  have HX0 := Lib.hid (show (x.f1 == (k : Int)) = true by simpa using hx0)
                  clear hx0
                  cases hok : okD l1.length L x.f0 with
                  | false =>
                    refine wp_region_auto (fun W => Fr w w.heap.size g [Value.slice (some am) l2_0.length c2_0, Value.slice (some ao) l2_1.length c2_1, Value.slice (some al) l2_2.length c2_2] cells.toList W ∧ Blk W wr.heap.size 53 [Value.int IntKind.i64 x.f0, Value.int IntKind.i64 x.f1, Value.int IntKind.i64 x.f2]) ((0, none, none) :: (0, none, none) :: (0, none, none) :: (0, none, none) :: (0, none, none) :: (0, none, none) :: (0, some (99, true), none) :: (0, some (99, true), none) :: (0, some (99, true), none) :: (0, some (99, true), none) :: (0, some (99, true), none) :: (0, some (104, false), none) :: (0, some (104, false), none) :: (0, some (104, false), none) :: (0, some (104, false), some true) :: (0, some (104, false), none) :: (0, some (99, true), none) :: (0, some (99, true), none) :: (0, some (111, false), none) :: (0, some (111, false), none) :: (0, some (111, false), none) :: (0, some (111, false), none) :: (0, some (111, false), none) :: (0, some (111, false), none) :: (0, some (111, false), none) :: (0, some (111, false), none) :: (0, some (111, false), none) :: (0, some (111, false), none) :: (0, some (111, false), none) :: (0, some (111, false), none) :: (0, some (111, false), none) :: (0, some (111, false), some true) :: (0, some (111, false), none) :: (0, some (99, true), none) :: (0, none, none) :: (0, none, none) :: []) (by kernel_rfl) (by kernel_rfl) (fun _ _ d _ _ h => by cases d <;> exact h) ?_ ?_
                    · exact ⟨H7.out.1.below (below_drew (below_drew (Below.refl w7.heap.size w7))) (Nat.le_refl _), H7.out.2.2.2.1.drew.drew⟩
                    repeat' (first
                      | (with_reducible apply rel_pass
                         focus (intro W hW; first | (go_simp; exact rfl) | go_simp)
                         simp only [Act.put, List.setIfInBounds_toArray, List.set_cons_zero, List.set_cons_succ])
                      | (with_reducible apply rel_yes
                         focus (exact rfl))
                      | (with_reducible apply rel_no
                         focus (exact rfl)
                         simp only [Act.put, List.setIfInBounds_toArray, List.set_cons_zero, List.set_cons_succ])
                      | (with_reducible apply rel_askF
                         focus (exact rfl)
                         all_goals (intro hb; simp only [hb, Act.put, List.setIfInBounds_toArray, List.set_cons_zero, List.set_cons_succ]))
                      | (with_reducible apply rel_askT
                         focus (exact rfl)
                         all_goals (intro hb; simp only [hb, Act.put, List.setIfInBounds_toArray, List.set_cons_zero, List.set_cons_succ]))
                      | (with_reducible apply rel_front1)
                      | (with_reducible apply rel_front2)
                      | (with_reducible apply rel_front3)
                      | (with_reducible apply rel_front4)
                      | (with_reducible apply rel_front5)
                      | (with_reducible apply rel_front6))
                    with_reducible apply rel_act
                    intro K hK
                    go_simp
                    have C := dist_step x.f0 _ w4.heap.size (l1.length : Int) L (H7.out.2.1.below (below_drew (below_drew (Below.refl w7.heap.size w7))) (by have := H6.out.2.2.2; have := H7.out.2.2.2.2; omega))
                    rw [hok] at C
                    refine C.mono ?_
                    clear C
                    rintro e w8 ⟨rfl, hd8, hg8⟩
                    have hsz7 : w7.heap.size ≤ w8.heap.size := hg8.size
                    have hf8 : Fr w w.heap.size g [Value.slice (some am) l2_0.length c2_0, Value.slice (some ao) l2_1.length c2_1, Value.slice (some al) l2_2.length c2_2] cells.toList w8 := (H7.out.1.below (below_drew (below_drew (Below.refl w7.heap.size w7))) (Nat.le_refl _)).grown hg8 (by have := H6.out.2.2.2; omega) (by have := H6.out.2.2.2; omega) (by have := H6.out.2.2.2; omega)
                    have hx8 : Blk w8 wr.heap.size 53 [Value.int IntKind.i64 x.f0, Value.int IntKind.i64 x.f1, Value.int IntKind.i64 x.f2] := (H7.out.2.2.2.1.drew.drew).grown hg8 (by have := H6.out.2.2.2; have := H7.out.2.2.2.2; simp only [ne_eq, Option.some.injEq]; omega)
                    have ho8 : Dist w8 w5.heap.size (l1.length : Int) R := (H7.out.2.2.1.below (below_drew (below_drew (Below.refl w7.heap.size w7))) (by have := H6.out.2.2.2; have := H7.out.2.2.2.2; omega)).apart hg8 (by have := H6.out.2.2.2; omega)
                    have hs8 : w6.heap.size ≤ w8.heap.size := by have := H7.out.2.2.2.2; omega
                    have H8 := Lib.hid (And.intro hf8 (And.intro hx8 (And.intro hd8 (And.intro ho8 hs8))))
                    clear hf8 hx8 hd8 ho8 hs8 hg8 hsz7
                    refine hK _ _ ⟨fun _ => ⟨H8.out.1, H8.out.2.1⟩, ?_⟩
                    clear hK K
                    try simp only [Act.put, List.setIfInBounds_toArray, List.set_cons_zero, List.set_cons_succ]
                    repeat' (first
                      | (with_reducible apply rel_pass
                         focus (intro W hW; first | (go_simp; exact rfl) | go_simp)
                         simp only [Act.put, List.setIfInBounds_toArray, List.set_cons_zero, List.set_cons_succ])
                      | (with_reducible apply rel_yes
                         focus (exact rfl))
                      | (with_reducible apply rel_no
                         focus (exact rfl)
                         simp only [Act.put, List.setIfInBounds_toArray, List.set_cons_zero, List.set_cons_succ])
                      | (with_reducible apply rel_askF
                         focus (exact rfl)
                         all_goals (intro hb; simp only [hb, Act.put, List.setIfInBounds_toArray, List.set_cons_zero, List.set_cons_succ]))
                      | (with_reducible apply rel_askT
                         focus (exact rfl)
                         all_goals (intro hb; simp only [hb, Act.put, List.setIfInBounds_toArray, List.set_cons_zero, List.set_cons_succ]))
                      | (with_reducible apply rel_front1)
                      | (with_reducible apply rel_front2)
                      | (with_reducible apply rel_front3)
                      | (with_reducible apply rel_front4)
                      | (with_reducible apply rel_front5)
                      | (with_reducible apply rel_front6))
                    apply rel_nil
                    simp only [Exit.then, Exit.inBlock]
                    go_wp2_with fail
                    refine bodyPost_ret (results_tmp2 rfl _ _ _) rfl ?_
                    exact ⟨by rw [HST.out, HX0.out, hok]; simp, H8.out.1.b⟩
                  | true =>
                    have hin : 0 ≤ x.f0 ∧ x.f0 < (l1.length : Int) := by simp only [okD, Bool.and_eq_true, decide_eq_true_eq] at hok; exact ⟨hok.1, hok.2.1⟩
                    obtain ⟨in0, in1⟩ := hin
                    have hm := HRC.out am l2_0 (k : Int) HR.out.2.1 (by omega) hk2
                    have ho := HRC.out ai l1 x.f0 HR.out.1 in0 in1
                    simp only [Int.toNat_natCast] at hm
                    have hcv := connects_f a0 (rd_T23 l1 x.f0).f0 (rd_T23 l1 x.f0).f1 (rd_T23 l2_0 (k : Int)).f0 (rd_T23 l2_0 (k : Int)).f1 x.f2
                    obtain ⟨cv, hcvd⟩ : ∃ cv, conB a0 (rd_T23 l1 x.f0).f0 (rd_T23 l1 x.f0).f1 (rd_T23 l2_0 (k : Int)).f0 (rd_T23 l2_0 (k : Int)).f1 x.f2 = cv := ⟨_, rfl⟩
                    rw [hcvd] at hcv
                    have HCV := Lib.hid (And.intro hcv hcvd)
                    clear hcv hcvd
                    refine wp_region_auto (fun W => Fr w w.heap.size g [Value.slice (some am) l2_0.length c2_0, Value.slice (some ao) l2_1.length c2_1, Value.slice (some al) l2_2.length c2_2] cells.toList W ∧ Blk W wr.heap.size 53 [Value.int IntKind.i64 x.f0, Value.int IntKind.i64 x.f1, Value.int IntKind.i64 x.f2]) ((0, none, none) :: (0, none, none) :: (0, none, none) :: (0, none, none) :: (0, none, none) :: (0, none, none) :: (0, some (99, true), none) :: (0, some (99, true), none) :: (0, some (99, true), none) :: (0, some (99, true), none) :: (0, some (99, true), none) :: (0, some (104, false), none) :: (0, some (104, false), none) :: (0, some (104, false), none) :: (0, some (104, false), some true) :: (0, some (104, false), none) :: (0, some (99, true), none) :: (0, some (99, true), none) :: (0, some (111, false), none) :: (0, some (111, false), none) :: (0, some (111, false), none) :: (0, some (111, false), none) :: (0, some (111, false), none) :: (0, some (111, false), none) :: (0, some (111, false), none) :: (0, some (111, false), none) :: (0, some (111, false), none) :: (0, some (111, false), none) :: (0, some (111, false), none) :: (0, some (111, false), none) :: (0, some (111, false), none) :: (0, some (111, false), some true) :: (0, some (111, false), none) :: (0, some (99, true), none) :: (0, none, none) :: (0, none, none) :: []) (by kernel_rfl) (by kernel_rfl) (fun _ _ d _ _ h => by cases d <;> exact h) ?_ ?_
                    · exact ⟨H7.out.1.below (below_drew (below_drew (Below.refl w7.heap.size w7))) (Nat.le_refl _), H7.out.2.2.2.1.drew.drew⟩
                    repeat' (first
                      | (with_reducible apply rel_pass
                         focus (intro W hW; first | (go_simp; exact rfl) | go_simp)
                         simp only [Act.put, List.setIfInBounds_toArray, List.set_cons_zero, List.set_cons_succ])
                      | (with_reducible apply rel_yes
                         focus (exact rfl))
                      | (with_reducible apply rel_no
                         focus (exact rfl)
                         simp only [Act.put, List.setIfInBounds_toArray, List.set_cons_zero, List.set_cons_succ])
                      | (with_reducible apply rel_askF
                         focus (exact rfl)
                         all_goals (intro hb; simp only [hb, Act.put, List.setIfInBounds_toArray, List.set_cons_zero, List.set_cons_succ]))
                      | (with_reducible apply rel_askT
                         focus (exact rfl)
                         all_goals (intro hb; simp only [hb, Act.put, List.setIfInBounds_toArray, List.set_cons_zero, List.set_cons_succ]))
                      | (with_reducible apply rel_front1)
                      | (with_reducible apply rel_front2)
                      | (with_reducible apply rel_front3)
                      | (with_reducible apply rel_front4)
                      | (with_reducible apply rel_front5)
                      | (with_reducible apply rel_front6))
                    with_reducible apply rel_act
                    intro K hK
                    go_simp
                    have C := dist_step x.f0 _ w4.heap.size (l1.length : Int) L (H7.out.2.1.below (below_drew (below_drew (Below.refl w7.heap.size w7))) (by have := H6.out.2.2.2; have := H7.out.2.2.2.2; omega))
                    rw [hok] at C
                    refine C.mono ?_
                    clear C
                    rintro e w8 ⟨rfl, hd8, hg8⟩
                    have hsz7 : w7.heap.size ≤ w8.heap.size := hg8.size
                    have hf8 : Fr w w.heap.size g [Value.slice (some am) l2_0.length c2_0, Value.slice (some ao) l2_1.length c2_1, Value.slice (some al) l2_2.length c2_2] cells.toList w8 := (H7.out.1.below (below_drew (below_drew (Below.refl w7.heap.size w7))) (Nat.le_refl _)).grown hg8 (by have := H6.out.2.2.2; omega) (by have := H6.out.2.2.2; omega) (by have := H6.out.2.2.2; omega)
                    have hx8 : Blk w8 wr.heap.size 53 [Value.int IntKind.i64 x.f0, Value.int IntKind.i64 x.f1, Value.int IntKind.i64 x.f2] := (H7.out.2.2.2.1.drew.drew).grown hg8 (by have := H6.out.2.2.2; have := H7.out.2.2.2.2; simp only [ne_eq, Option.some.injEq]; omega)
                    have ho8 : Dist w8 w5.heap.size (l1.length : Int) R := (H7.out.2.2.1.below (below_drew (below_drew (Below.refl w7.heap.size w7))) (by have := H6.out.2.2.2; have := H7.out.2.2.2.2; omega)).apart hg8 (by have := H6.out.2.2.2; omega)
                    have hs8 : w6.heap.size ≤ w8.heap.size := by have := H7.out.2.2.2.2; omega
                    have H8 := Lib.hid (And.intro hf8 (And.intro hx8 (And.intro hd8 (And.intro ho8 hs8))))
                    clear hf8 hx8 hd8 ho8 hs8 hg8 hsz7
                    refine hK _ _ ⟨fun _ => ⟨H8.out.1, H8.out.2.1⟩, ?_⟩
                    clear hK K
                    try simp only [Act.put, List.setIfInBounds_toArray, List.set_cons_zero, List.set_cons_succ]
                    repeat' (first
                      | (with_reducible apply rel_pass
                         focus (intro W hW; first | (go_simp; exact rfl) | go_simp)
                         simp only [Act.put, List.setIfInBounds_toArray, List.set_cons_zero, List.set_cons_succ])
                      | (with_reducible apply rel_yes
                         focus (exact rfl))
                      | (with_reducible apply rel_no
                         focus (exact rfl)
                         simp only [Act.put, List.setIfInBounds_toArray, List.set_cons_zero, List.set_cons_succ])
                      | (with_reducible apply rel_askF
                         focus (exact rfl)
                         all_goals (intro hb; simp only [hb, Act.put, List.setIfInBounds_toArray, List.set_cons_zero, List.set_cons_succ]))
                      | (with_reducible apply rel_askT
                         focus (exact rfl)
                         all_goals (intro hb; simp only [hb, Act.put, List.setIfInBounds_toArray, List.set_cons_zero, List.set_cons_succ]))
                      | (with_reducible apply rel_front1)
                      | (with_reducible apply rel_front2)
                      | (with_reducible apply rel_front3)
                      | (with_reducible apply rel_front4)
                      | (with_reducible apply rel_front5)
                      | (with_reducible apply rel_front6))
                    with_reducible apply rel_act
                    intro K hK
                    go_simp
                    refine (ballot_key_connects.calls a0 (rd_T23 l1 x.f0).f0 (rd_T23 l1 x.f0).f1 (rd_T23 l2_0 (k : Int)).f0 (rd_T23 l2_0 (k : Int)).f1 x.f2 cv w8 HCV.out.1).mono ?_
                    rintro e w9 ⟨rfl, hb9⟩
                    have H9 := Lib.hid (And.intro (H8.out.1.below hb9 (Nat.le_refl _)) (And.intro (H8.out.2.1.below hb9 H8.out.2.1.lt) (And.intro (H8.out.2.2.1.below hb9 (by have := H6.out.2.2.2; have := H8.out.2.2.2.2; omega)) (And.intro (H8.out.2.2.2.1.below hb9 (by have := H6.out.2.2.2; have := H8.out.2.2.2.2; omega)) (Nat.le_trans H8.out.2.2.2.2 hb9.size)))))
                    clear hb9
                    refine hK _ _ ⟨fun _ => ⟨H9.out.1, H9.out.2.1⟩, ?_⟩
                    clear hK K
                    try simp only [Act.put, List.setIfInBounds_toArray, List.set_cons_zero, List.set_cons_succ]
                    repeat' (first
                      | (with_reducible apply rel_pass
                         focus (intro W hW; first | (go_simp; exact rfl) | go_simp)
                         simp only [Act.put, List.setIfInBounds_toArray, List.set_cons_zero, List.set_cons_succ])
                      | (with_reducible apply rel_yes
                         focus (exact rfl))
                      | (with_reducible apply rel_no
                         focus (exact rfl)
                         simp only [Act.put, List.setIfInBounds_toArray, List.set_cons_zero, List.set_cons_succ])
                      | (with_reducible apply rel_askF
                         focus (exact rfl)
                         all_goals (intro hb; simp only [hb, Act.put, List.setIfInBounds_toArray, List.set_cons_zero, List.set_cons_succ]))
                      | (with_reducible apply rel_askT
                         focus (exact rfl)
                         all_goals (intro hb; simp only [hb, Act.put, List.setIfInBounds_toArray, List.set_cons_zero, List.set_cons_succ]))
                      | (with_reducible apply rel_front1)
                      | (with_reducible apply rel_front2)
                      | (with_reducible apply rel_front3)
                      | (with_reducible apply rel_front4)
                      | (with_reducible apply rel_front5)
                      | (with_reducible apply rel_front6))
                    apply rel_nil
                    simp only [Exit.then, Exit.inBlock]
                    cases cv with
                    | false =>
                      go_wp2_with fail
                      refine bodyPost_ret (results_tmp2 rfl _ _ _) rfl ?_
                      exact ⟨by rw [HST.out, HX0.out, hok, HCV.out.2]; simp, H9.out.1.b⟩
                    | true =>
                      have HST2 := Lib.hid (show chkF a0 l1 l2_0 l2_1 bits 0 [] [] l2_2 = chkF a0 l1 l2_0 l2_1 bits (k + 1) (L ++ [x.f0]) R (l2_2.drop (k + 1)) by rw [HST.out, HX0.out, hok, HCV.out.2]; simp)
                      have hks : ksD l1.length L x.f0 = L ++ [x.f0] := by unfold ksD; rw [if_pos hok]
                      have hd9 := H9.out.2.2.1
                      rw [hks] at hd9
                      have HD9 := Lib.hid hd9
                      clear hd9 hks hm ho in0 in1 HST hok
                      go_wp2_with fail
                      have HWJ := Lib.hid (show wrap64 ((k : Int) + 1) = ((k + 1 : Nat) : Int) by have := HL.out; unfold wrap64; omega)
                      refine ⟨⟨k + 1, L ++ [x.f0], R, by omega, by first | rw [HWJ.out] | rfl, HST2, ⟨H9.out.1, H9.out.2.2.2.2⟩, ⟨HD9.out, H9.out.2.2.2.1⟩⟩, ?_⟩
                      try rw [HWJ.out]
                      simp only [intOf, Int.toNat_natCast]
                      omega
                · have d1 : (x.f1 != (k : Int)) = true := by simpa using hx0
                  have HX0 := Lib.hid (show (x.f1 == (k : Int)) = false by simpa using hx0)
                  clear hx0
                  refine wp_region_auto (fun W => Fr w w.heap.size g [Value.slice (some am) l2_0.length c2_0, Value.slice (some ao) l2_1.length c2_1, Value.slice (some al) l2_2.length c2_2] cells.toList W ∧ Blk W wr.heap.size 53 [Value.int IntKind.i64 x.f0, Value.int IntKind.i64 x.f1, Value.int IntKind.i64 x.f2]) ((0, none, none) :: (0, none, none) :: (0, none, none) :: (0, none, none) :: (0, none, none) :: (0, none, none) :: (0, some (99, true), none) :: (0, some (99, true), none) :: (0, some (99, true), none) :: (0, some (99, true), none) :: (0, some (99, true), none) :: (0, some (104, false), none) :: (0, some (104, false), none) :: (0, some (104, false), none) :: (0, some (104, false), some true) :: (0, some (104, false), none) :: (0, some (99, true), none) :: (0, some (99, true), none) :: (0, some (111, false), none) :: (0, some (111, false), none) :: (0, some (111, false), none) :: (0, some (111, false), none) :: (0, some (111, false), none) :: (0, some (111, false), none) :: (0, some (111, false), none) :: (0, some (111, false), none) :: (0, some (111, false), none) :: (0, some (111, false), none) :: (0, some (111, false), none) :: (0, some (111, false), none) :: (0, some (111, false), none) :: (0, some (111, false), some true) :: (0, some (111, false), none) :: (0, some (99, true), none) :: (0, none, none) :: (0, none, none) :: []) (by kernel_rfl) (by kernel_rfl) (fun _ _ d _ _ h => by cases d <;> exact h) ?_ ?_
                  · exact ⟨H7.out.1.below (below_drew (below_drew (Below.refl w7.heap.size w7))) (Nat.le_refl _), H7.out.2.2.2.1.drew.drew⟩
                  repeat' (first
                    | (with_reducible apply rel_pass
                       focus (intro W hW; first | (go_simp; exact rfl) | go_simp)
                       simp only [Act.put, List.setIfInBounds_toArray, List.set_cons_zero, List.set_cons_succ])
                    | (with_reducible apply rel_yes
                       focus (exact rfl))
                    | (with_reducible apply rel_no
                       focus (exact rfl)
                       simp only [Act.put, List.setIfInBounds_toArray, List.set_cons_zero, List.set_cons_succ])
                    | (with_reducible apply rel_askF
                       focus (exact rfl)
                       all_goals (intro hb; simp only [hb, Act.put, List.setIfInBounds_toArray, List.set_cons_zero, List.set_cons_succ]))
                    | (with_reducible apply rel_askT
                       focus (exact rfl)
                       all_goals (intro hb; simp only [hb, Act.put, List.setIfInBounds_toArray, List.set_cons_zero, List.set_cons_succ]))
                    | (with_reducible apply rel_front1)
                    | (with_reducible apply rel_front2)
                    | (with_reducible apply rel_front3)
                    | (with_reducible apply rel_front4)
                    | (with_reducible apply rel_front5)
                    | (with_reducible apply rel_front6))
                  apply rel_nil
                  simp only [Exit.then, Exit.inBlock]
                  go_wp2_with fail
                  refine bodyPost_ret (results_tmp2 rfl _ _ _) rfl ?_
                  exact ⟨by rw [HST.out, HX0.out]; simp, (H7.out.1.below (below_drew (below_drew (Below.refl w7.heap.size w7))) (Nat.le_refl _)).b⟩
            · obtain rfl : k = l2_2.length := by omega
              have hres : chkF a0 l1 l2_0 l2_1 bits 0 [] [] l2_2 = true := by rw [hc.out, List.drop_length]; rfl
              have HQ := Lib.hid hres
              clear hres hc
              go_wp2_with fail
              refine bodyPost_ret (results_tmp2 rfl _ _ _) rfl ?_
              exact ⟨by rw [HQ.out]; simp, hfr.out.1.b⟩
        · rw [if_neg (fun h => hlen h.2)] at hres
          simp only [Prod.mk.injEq] at hres
          obtain ⟨rfl, rfl⟩ := hres
          have q4 : ((l2_2.length : Int) != (l1.length : Int)) = true := by simp; omega
          clear hlen
          go_wp2_with fail
          refine bodyPost_ret (results_tmp2 rfl _ _ _) rfl ?_
          exact ⟨rfl, HB4.out⟩
      · rw [if_neg (fun h => by cases h.1)] at hres
        simp only [Prod.mk.injEq] at hres
        obtain ⟨rfl, rfl⟩ := hres
        go_wp2_with fail
        refine bodyPost_ret (results_tmp2 rfl _ _ _) rfl ?_
        exact ⟨rfl, HB4.out⟩
end Go.Proofs.YtkaebblbmoolaaaDoor.P
