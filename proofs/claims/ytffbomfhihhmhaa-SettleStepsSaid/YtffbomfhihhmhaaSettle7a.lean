/- The walk of the reference's Settle: where nothing is refused ahead of the loop. -/
import Derived.Test.YtffbomfhihhmhaaSettle6
set_option linter.unusedSimpArgs false
set_option linter.unusedVariables false
namespace Go.Proofs.Ytffbomfhihhmhaa.Settle
open Go Go.RowKit Go.Shelf Go.Proofs.Ytffbomfhihhmhaa.Ord Go.Proofs.Ytffbomfhihhmhaa.Base

theorem withinV_no {a b : List Ch} (h : (!charges a || !charges b || !all2 hq a b) = true) : withinV a b = .tuple #[.bool false, .int .i64 1] := by unfold withinV; rw [h]; rfl
theorem withinV_yes {a b : List Ch} (h : (!charges a || !charges b || !all2 hq a b) = false) : withinV a b = .tuple #[.bool (all2 wq a b), .int .i64 0] := by unfold withinV; rw [h]; rfl

theorem difs_len : ∀ (a b : List Ch), a.length = b.length → (difs a b).length = a.length
  | [], [], _ => rfl
  | [], _ :: _, h => by simp at h
  | _ :: _, [], h => by simp at h
  | x :: a, y :: b, h => by simp [difs, difs_len a b (by simpa using h)]
theorem difs_get : ∀ (a b : List Ch) (k : Nat) (x y : Ch), a[k]? = some x → b[k]? = some y → (difs a b)[k]? = some (dif x y)
  | [], _, k, x, y, h, _ => by simp at h
  | _ :: _, [], k, x, y, _, h => by simp at h
  | u :: a, v :: b, 0, x, y, h, h' => by
    simp only [List.getElem?_cons_zero, Option.some.injEq] at h h'
    subst h h'
    rfl
  | u :: a, v :: b, k + 1, x, y, h, h' => by
    simpa [difs] using difs_get a b k x y (by simpa using h) (by simpa using h')
theorem all2_get {p : Ch → Ch → Bool} : ∀ {a b : List Ch} {k : Nat} {x y : Ch}, all2 p a b = true → a[k]? = some x → b[k]? = some y → p x y = true
  | [], _, k, x, y, _, h, _ => by simp at h
  | _ :: _, [], k, x, y, _, _, h => by simp at h
  | u :: a, v :: b, 0, x, y, h0, h, h' => by
    simp only [List.getElem?_cons_zero, Option.some.injEq] at h h'
    subst h h'
    simp only [all2, Bool.and_eq_true] at h0
    exact h0.1
  | u :: a, v :: b, k + 1, x, y, h0, h, h' => by
    simp only [all2, Bool.and_eq_true] at h0
    exact all2_get h0.2 (by simpa using h) (by simpa using h')

theorem setPost_err {w w' : World} {a : Int} {r : SetR} (hr : r = ⟨[], 0, a⟩) (h : Ext w w') : SetPost w r (.returned (.tuple #[.slice none 0 0, .int .i64 0, .int .i64 a])) w' := by
  subst hr
  exact ⟨_, rfl, ⟨by simp, .inl ⟨rfl, rfl⟩⟩, h⟩


set_option maxRecDepth 8192 in
set_option maxHeartbeats 4000000 in
theorem SettleR_go (a b : List Ch) (ho hn : Int) (A B : Option Addr) (c d : Nat) (w : World) (ha : a.length ≤ 9223372036854775807) (hb : b.length ≤ 9223372036854775807)
    (hA : RowsOf w 5 Ch.cells A a) (hB : RowsOf w 5 Ch.cells B b) (HG : Hid (charges a = true ∧ charges b = true ∧ all2 hq a b = true)) (e1 : amt ho = true) (e2 : amt hn = true) (h4 : all2 wq a b = true) (h5 : cs a + ho = cs b + hn)
    (HV : Hid (settleS a b ho hn = if !(all2 difOk a b && amt (hn - ho)) then ⟨[], 0, 3⟩ else ⟨difs a b, hn - ho, 0⟩)) :
    Calls Try.prog 10 #[.slice A a.length c, .slice B b.length d, .int .i64 ho, .int .i64 hn] w (SetPost w (settleS a b ho hn)) := by
  have h1 : (!charges a || !charges b || !all2 hq a b) = false := by simp [HG.out.1, HG.out.2.1, HG.out.2.2]
  have c1 := WithinR_calls a b A B c d w ha hb hA hB
  rw [withinV_yes h1, h4] at c1
  have m1 := fun W => amountR_calls ho W
  have m2 := fun W => amountR_calls hn W
  rw [e1] at m1
  rw [e2] at m2
  have h5' : (cs a + ho != cs b + hn) = false := by simp [h5]
  obtain ⟨la, ra⟩ := charges_right HG.out.1
  obtain ⟨lb, rb⟩ := charges_right HG.out.2.1
  have s1 := fun W (h : Ext w W) => sumR_calls a A c W la (fun x hx => by have := ra x hx; unfold chRight at this; omega) (hA.ext h)
  have s2 := fun W (h : Ext w W) => sumR_calls b B d W lb (fun x hx => by have := rb x hx; unfold chRight at this; omega) (hB.ext h)
  have ba := cs_bound (l := a) (fun x hx => by have := ra x hx; unfold chRight at this; omega)
  have bb := cs_bound (l := b) (fun x hx => by have := rb x hx; unfold chRight at this; omega)
  have bo : -1000000000 ≤ ho ∧ ho ≤ 1000000000 := by unfold amt at e1; simpa using e1
  have bn : -1000000000 ≤ hn ∧ hn ≤ 1000000000 := by unfold amt at e2; simpa using e2
  obtain ⟨bo1, bo2⟩ := bo
  obtain ⟨bn1, bn2⟩ := bn
  have ba1 : -64000000000 ≤ cs a := by omega
  have ba2 : cs a ≤ 64000000000 := by omega
  have bb1 : -64000000000 ≤ cs b := by omega
  have bb2 : cs b ≤ 64000000000 := by omega
  clear ba bb
  have HRA := Lib.hid ra
  have HRB := Lib.hid rb
  clear ra rb
  have hlen := all2_eq_len HG.out.2.2
  have hdl := difs_len a b hlen
  have Hlen := Lib.hid hlen
  have Hdl := Lib.hid hdl
  clear h1 h4 e1 e2 h5 hlen hdl
  go_enter Try.func10, Try.ntmps10
  go_wp2_with fail
  refine c1.mono ?_
  rintro e w1 ⟨rfl, hx1⟩
  go_wp2_with fail
  refine (m1 w1).mono ?_
  rintro e w2 ⟨rfl, rfl⟩
  go_wp2_with fail
  refine (m2 w1).mono ?_
  rintro e w2 ⟨rfl, rfl⟩
  go_wp2_with fail
  refine (s1 w1 hx1).mono ?_
  rintro e w2 ⟨rfl, hx2⟩
  go_wp2_with fail
  refine (s2 w2 (hx1.trans hx2)).mono ?_
  rintro e w3 ⟨rfl, hx3⟩
  go_wp2_with fail
  have hx0 := (hx1.trans hx2).trans hx3
  clear h5' s1 s2 c1
  go_loopw [13, 14] (fun v i wr => ∃ k : Nat, k ≤ a.length ∧ i = .int .i64 k ∧ wr.ownsRow w.heap.size 36 5 v k (((difs a b).take k).flatMap Ch.cells) ∧ Ext w wr ∧ Hid (all2 difOk a b = all2 difOk (a.drop k) (b.drop k))) (fun _ i _ => a.length - (intOf i).toNat)
  case atStart => exact ⟨0, Nat.zero_le _, rfl, ⟨by simp, .inl ⟨rfl, rfl⟩⟩, hx0, rfl⟩
  case round =>
    obtain ⟨k, hk, rfl, hown, hx, hst⟩ := hrel
    by_cases hlt : k < a.length
    · have hltb : k < b.length := by have := Hlen.out; omega
      have hxk : a[k]? = some a[k] := List.getElem?_eq_getElem hlt
      have hyk : b[k]? = some b[k] := List.getElem?_eq_getElem hltb
      have hst' : Hid (all2 difOk a b = (difOk a[k] b[k] && all2 difOk (a.drop (k + 1)) (b.drop (k + 1)))) := by
        unfold Hid
        rw [hst.out, all2_drop hxk hyk]
      have hxr := HRA.out a[k] (List.getElem_mem hlt)
      have hyr := HRB.out b[k] (List.getElem_mem hltb)
      have hhome := all2_get HG.out.2.2 hxk hyk
      have hcells : Hid (((difs a b).take k).flatMap Ch.cells ++ [.int .i64 a[k].home, .int .i64 (b[k].cents - a[k].cents), .int .i64 (b[k].lo - a[k].cents), .int .i64 (b[k].hi - a[k].cents), .bool b[k].sure] = ((difs a b).take (k + 1)).flatMap Ch.cells) := by
        unfold Hid
        have e : a[k].home = b[k].home := by unfold hq at hhome; simpa using hhome
        rw [List.take_add_one, difs_get a b k _ _ hxk hyk, e]
        simp [Ch.cells, dif]
      generalize a[k] = x at *
      generalize b[k] = y at *
      obtain ⟨ad, rfl, hld⟩ := rows_five hA hxk
      obtain ⟨bd, rfl, hlb⟩ := rows_five hB hyk
      have ck := fun W (hW : Held (Ext wr) W) => hld W (hx.trans hW)
      have ci := fun W (hW : Held (Ext wr) W) => hlb W (hx.trans hW)
      obtain ⟨h0, h1, h2, h3, h4⟩ := hld wr hx
      obtain ⟨g0, g1, g2, g3, g4⟩ := hlb wr hx
      have hltb' : (k : Int) < (b.length : Int) := by omega
      have HF : Hid (difOk x y = false → all2 difOk a b = false) := fun h => by rw [hst'.out, h]; rfl
      have HT : Hid (difOk x y = true → all2 difOk a b = all2 difOk (a.drop (k + 1)) (b.drop (k + 1))) := fun h => by rw [hst'.out, h]; rfl
      have hkb : (k + 1) * 40 ≤ 140737488355328 := by omega
      obtain ⟨_, _, x1, x2, x3, x4⟩ := hxr
      obtain ⟨_, _, y1, y2, y3, y4⟩ := hyr
      clear hld hlb hxk hyk hst hst' hhome
      go_wp2_with fail
      refine wp_region_auto (Ext wr) ((0, none, none) :: (0, none, none) :: (0, none, none) :: (0, none, none) :: (0, none, none) :: (0, none, none) :: (0, none, none) :: (0, none, none) :: (0, none, none) :: (0, none, none) :: (0, none, none) :: (0, none, none) :: (0, none, none) :: (0, none, none) :: (0, none, none) :: (0, none, none) :: (0, none, none) :: (0, none, none) :: (0, none, some true) :: (0, none, some false) :: []) (by kernel_rfl) (by kernel_rfl) (fun _ _ d _ _ h => by cases d <;> exact h) (Ext.drew _) ?_
      repeat' (first
        | (with_reducible apply rel_pass
           focus (intro W hW; first | (go_simp; exact rfl) | go_simp)
           simp only [Act.put, List.setIfInBounds_toArray, List.set_cons_zero, List.set_cons_succ])
        | (with_reducible apply rel_yes
           focus (exact rfl))
        | (with_reducible apply rel_no
           focus (exact rfl)
           simp only [Act.put, List.setIfInBounds_toArray, List.set_cons_zero, List.set_cons_succ])
        | (with_reducible apply rel_askF
           focus (exact rfl)
           all_goals (intro hb; simp only [hb, Act.put, List.setIfInBounds_toArray, List.set_cons_zero, List.set_cons_succ]))
        | (with_reducible apply rel_askT
           focus (exact rfl)
           all_goals (intro hb; simp only [hb, Act.put, List.setIfInBounds_toArray, List.set_cons_zero, List.set_cons_succ]))
        | (with_reducible apply rel_front1)
        | (with_reducible apply rel_front2)
        | (with_reducible apply rel_front3)
        | (with_reducible apply rel_front4)
        | (with_reducible apply rel_front5)
        | (with_reducible apply rel_front6))
      with_reducible apply rel_act
      intro K hK
      go_simp
      refine hK _ _ ⟨fun _ => ?_, ?_⟩
      · repeat (first | exact Ext.refl _ | assumption | refine Ext.trans ?_ (Ext.drew _) | refine Ext.trans ?_ (Ext.alloc _ _) | refine Ext.set ?_ (by simp; try omega) _)
      clear hK K
      try simp only [Act.put, List.setIfInBounds_toArray, List.set_cons_zero, List.set_cons_succ]
      repeat' (first
        | (with_reducible apply rel_pass
           focus (intro W hW; first | (go_simp; exact rfl) | go_simp)
           simp only [Act.put, List.setIfInBounds_toArray, List.set_cons_zero, List.set_cons_succ])
        | (with_reducible apply rel_yes
           focus (exact rfl))
        | (with_reducible apply rel_no
           focus (exact rfl)
           simp only [Act.put, List.setIfInBounds_toArray, List.set_cons_zero, List.set_cons_succ])
        | (with_reducible apply rel_askF
           focus (exact rfl)
           all_goals (intro hb; simp only [hb, Act.put, List.setIfInBounds_toArray, List.set_cons_zero, List.set_cons_succ]))
        | (with_reducible apply rel_askT
           focus (exact rfl)
           all_goals (intro hb; simp only [hb, Act.put, List.setIfInBounds_toArray, List.set_cons_zero, List.set_cons_succ]))
        | (with_reducible apply rel_front1)
        | (with_reducible apply rel_front2)
        | (with_reducible apply rel_front3)
        | (with_reducible apply rel_front4)
        | (with_reducible apply rel_front5)
        | (with_reducible apply rel_front6))
      with_reducible apply rel_act
      intro K hK
      go_simp
      refine hK _ _ ⟨fun _ => ?_, ?_⟩
      · repeat (first | exact Ext.refl _ | assumption | refine Ext.trans ?_ (Ext.drew _) | refine Ext.trans ?_ (Ext.alloc _ _) | refine Ext.set ?_ (by simp; try omega) _)
      clear hK K
      try simp only [Act.put, List.setIfInBounds_toArray, List.set_cons_zero, List.set_cons_succ]
      repeat' (first
        | (with_reducible apply rel_pass
           focus (intro W hW; first | (go_simp; exact rfl) | go_simp)
           simp only [Act.put, List.setIfInBounds_toArray, List.set_cons_zero, List.set_cons_succ])
        | (with_reducible apply rel_yes
           focus (exact rfl))
        | (with_reducible apply rel_no
           focus (exact rfl)
           simp only [Act.put, List.setIfInBounds_toArray, List.set_cons_zero, List.set_cons_succ])
        | (with_reducible apply rel_askF
           focus (exact rfl)
           all_goals (intro hb; simp only [hb, Act.put, List.setIfInBounds_toArray, List.set_cons_zero, List.set_cons_succ]))
        | (with_reducible apply rel_askT
           focus (exact rfl)
           all_goals (intro hb; simp only [hb, Act.put, List.setIfInBounds_toArray, List.set_cons_zero, List.set_cons_succ]))
        | (with_reducible apply rel_front1)
        | (with_reducible apply rel_front2)
        | (with_reducible apply rel_front3)
        | (with_reducible apply rel_front4)
        | (with_reducible apply rel_front5)
        | (with_reducible apply rel_front6))
      apply rel_nil
      simp only [Exit.then, Exit.inBlock]
      go_wp2_with fail
      refine wp_region_auto (Ext wr) ((0, none, none) :: (0, none, none) :: (0, none, none) :: (0, none, none) :: (0, none, none) :: (0, none, none) :: (0, none, none) :: (0, none, none) :: (0, none, none) :: (0, none, none) :: (0, none, none) :: (0, none, none) :: (0, none, none) :: (0, none, none) :: (0, none, none) :: (0, none, none) :: (0, none, none) :: (0, none, none) :: (0, none, some false) :: []) (by kernel_rfl) (by kernel_rfl) (fun _ _ d _ _ h => by cases d <;> exact h) ?_ ?_
      · repeat (first | exact Ext.refl _ | assumption | refine Ext.trans ?_ (Ext.drew _) | refine Ext.trans ?_ (Ext.alloc _ _) | refine Ext.set ?_ (by simp; try omega) _)
      repeat' (first
        | (with_reducible apply rel_pass
           focus (intro W hW; first | (go_simp; exact rfl) | go_simp)
           simp only [Act.put, List.setIfInBounds_toArray, List.set_cons_zero, List.set_cons_succ])
        | (with_reducible apply rel_yes
           focus (exact rfl))
        | (with_reducible apply rel_no
           focus (exact rfl)
           simp only [Act.put, List.setIfInBounds_toArray, List.set_cons_zero, List.set_cons_succ])
        | (with_reducible apply rel_askF
           focus (exact rfl)
           all_goals (intro hb; simp only [hb, Act.put, List.setIfInBounds_toArray, List.set_cons_zero, List.set_cons_succ]))
        | (with_reducible apply rel_askT
           focus (exact rfl)
           all_goals (intro hb; simp only [hb, Act.put, List.setIfInBounds_toArray, List.set_cons_zero, List.set_cons_succ]))
        | (with_reducible apply rel_front1)
        | (with_reducible apply rel_front2)
        | (with_reducible apply rel_front3)
        | (with_reducible apply rel_front4)
        | (with_reducible apply rel_front5)
        | (with_reducible apply rel_front6))
      with_reducible apply rel_act
      intro K hK
      go_simp
      refine hK _ _ ⟨fun _ => ?_, ?_⟩
      · repeat (first | exact Ext.refl _ | assumption | refine Ext.trans ?_ (Ext.drew _) | refine Ext.trans ?_ (Ext.alloc _ _) | refine Ext.set ?_ (by simp; try omega) _)
      clear hK K
      try simp only [Act.put, List.setIfInBounds_toArray, List.set_cons_zero, List.set_cons_succ]
      repeat' (first
        | (with_reducible apply rel_pass
           focus (intro W hW; first | (go_simp; exact rfl) | go_simp)
           simp only [Act.put, List.setIfInBounds_toArray, List.set_cons_zero, List.set_cons_succ])
        | (with_reducible apply rel_yes
           focus (exact rfl))
        | (with_reducible apply rel_no
           focus (exact rfl)
           simp only [Act.put, List.setIfInBounds_toArray, List.set_cons_zero, List.set_cons_succ])
        | (with_reducible apply rel_askF
           focus (exact rfl)
           all_goals (intro hb; simp only [hb, Act.put, List.setIfInBounds_toArray, List.set_cons_zero, List.set_cons_succ]))
        | (with_reducible apply rel_askT
           focus (exact rfl)
           all_goals (intro hb; simp only [hb, Act.put, List.setIfInBounds_toArray, List.set_cons_zero, List.set_cons_succ]))
        | (with_reducible apply rel_front1)
        | (with_reducible apply rel_front2)
        | (with_reducible apply rel_front3)
        | (with_reducible apply rel_front4)
        | (with_reducible apply rel_front5)
        | (with_reducible apply rel_front6))
      apply rel_nil
      simp only [Exit.then, Exit.inBlock]
      go_wp2_with fail
      go_wp2_with (first
        | (go_at_call 23; refine (amountR_calls _ _).mono ?_; rintro e w2 ⟨rfl, rfl⟩)
        | ((at_builtin; apply app_ownD w.heap.size 22 (.agg #[.int .i64 0, .int .i64 0, .int .i64 0, .int .i64 0, .bool false]) 5 40 k; (case hgd => rfl); (case ho => rfl); (case ht => exact Try.underlying22); (case hinfo => exact info36); (case hz => rfl); (case hsz => decide); (case hb0 => decide); (case hs => rfl); (case hx => rfl); (case hB => simp); (case hc => rfl); (case h1 => simp [Value.oneCell']); (case HO => (refine own_keep hown ?_; repeat (first | exact Ext.refl _ | assumption | refine Ext.trans ?_ (Ext.drew _) | refine Ext.trans ?_ (Ext.alloc _ _) | refine Ext.set ?_ (by simp; try omega) _))); (case hbase => (have := hx.size; simp; omega)); (case hl => exact hkb); intro v1 w1 hown1 hg1)))
      · go_ret3
        exact setPost_err (by rw [HV.out, HF.out (by have h := ‹(!amt (y.hi - x.cents)) = true›; simp at h; simp [difOk, *])]; rfl) (by refine hx.trans ?_; repeat (first | exact Ext.refl _ | assumption | refine Ext.trans ?_ (Ext.drew _) | refine Ext.trans ?_ (Ext.alloc _ _) | refine Ext.set ?_ (by simp; try omega) _))
      · refine ⟨⟨k + 1, by omega, by simp, (congrArg (fun l => w1.ownsRow w.heap.size 36 5 v1 (k + 1) l) hcells.out).mp hown1, ?_, HT.out (by have h := ‹(!amt (y.hi - x.cents)) = false›; simp at h; simp [difOk, *])⟩, by simp [intOf]; omega⟩
        refine own_ext (own_keep hown ?_) (Nat.le_refl _) ?_ hg1
        · repeat (first | exact Ext.refl _ | assumption | refine Ext.trans ?_ (Ext.drew _) | refine Ext.trans ?_ (Ext.alloc _ _) | refine Ext.set ?_ (by simp; try omega) _)
        · refine hx.trans ?_
          repeat (first | exact Ext.refl _ | assumption | refine Ext.trans ?_ (Ext.drew _) | refine Ext.trans ?_ (Ext.alloc _ _) | refine Ext.set ?_ (by simp; try omega) _)
      · go_ret3
        exact setPost_err (by rw [HV.out, HF.out (by simp [difOk, dif, *])]; rfl) (by refine hx.trans ?_; repeat (first | exact Ext.refl _ | assumption | refine Ext.trans ?_ (Ext.drew _) | refine Ext.trans ?_ (Ext.alloc _ _) | refine Ext.set ?_ (by simp; try omega) _))
      · go_ret3
        exact setPost_err (by rw [HV.out, HF.out (by simp [difOk, dif, *])]; rfl) (by refine hx.trans ?_; repeat (first | exact Ext.refl _ | assumption | refine Ext.trans ?_ (Ext.drew _) | refine Ext.trans ?_ (Ext.alloc _ _) | refine Ext.set ?_ (by simp; try omega) _))
    · obtain rfl : k = a.length := by omega
      have hfin : Hid (all2 difOk a b = true) := by unfold Hid; rw [hst.out, List.drop_length, Hlen.out, List.drop_length]; rfl
      rw [List.take_of_length_le (Nat.le_of_eq Hdl.out)] at hown
      clear hst
      go_wp2_with fail
      refine (amountR_calls _ _).mono ?_
      rintro e w4 ⟨rfl, rfl⟩
      cases hm : amt (hn - ho)
      · go_wp2_with fail
        go_ret3
        exact setPost_err (by rw [HV.out, hm, Bool.and_false]; rfl) hx
      · go_wp2_with fail
        go_ret3
        rw [HV.out, hfin.out, hm]
        have hown' := hown
        rw [← Hdl.out] at hown'
        exact ⟨_, rfl, hown', hx⟩
end Go.Proofs.Ytffbomfhihhmhaa.Settle
