/- Chapter 32: the law's head (the example of the chapter), walked once: it answers true. -/
import Derived.Test.YtdhnojfpgpjabaaDoorXstate
import Derived.Test.YtdhnojfpgpjabaaDoorPx6
set_option linter.unusedSimpArgs false
set_option linter.unusedVariables false
namespace Go.Proofs.YtdhnojfpgpjabaaDoor.P
open Go Go.RowKit Go.Proofs.YtdhnojfpgpjabaaDoorW.PrintWords Go.Proofs.YtdhnojfpgpjabaaDoorW.PrintLast Go.Proofs.YtdhnojfpgpjabaaDoorW.PrintMore Go.Proofs.YtdhnojfpgpjabaaDoor.Ord

def exL : List S36 := [⟨1, 0, 30000⟩, ⟨3, 0, 500⟩, ⟨2, 100, 9000⟩]
def exM : List S36 := [⟨4, 100, 411⟩, ⟨6, 100, 0⟩]
theorem ex_calls (w : World) : Calls Tryd.prog 21 #[] w fun e w' => e = .returned (.slice (some ⟨w.heap.size, 0, none⟩) 3 3) ∧ w' = w.alloc (.cells #[.int .i64 1, .int .i64 0, .int .i64 30000, .int .i64 3, .int .i64 0, .int .i64 500, .int .i64 2, .int .i64 100, .int .i64 9000] 36) := by
  go_enter Tryd.func21, Tryd.ntmps21
  go_wp2_with fail
  go_ret
  exact ⟨rfl, rfl⟩
def exParts : List (List Value) := [[.int .i64 1, .int .i64 0, .int .i64 30000], [.int .i64 3, .int .i64 0, .int .i64 500], [.int .i64 2, .int .i64 100, .int .i64 9000]]
def exParts2 : List (List Value) := [[.int .i64 4, .int .i64 100, .int .i64 411], [.int .i64 6, .int .i64 100, .int .i64 0]]
/-- A block whose first cells are known, read. -/
theorem C_pre {α : Type} {d : Kd α} {W : World} {g : Nat} {t : TypeId} (xs : List α) (parts : List (List Value)) (rest : Array Value) (hb : W.heap[g]? = some (.cells (parts.flatten.toArray ++ rest) t (0, 0))) (hl : xs.length ≤ 9223372036854775807) (h : Parts (d.K W) xs parts) :
    Kd.C d W (some ⟨g, 0, none⟩) xs.length xs := by
  have hn : ∀ x c, d.K W x c → c.length = d.sz := fun x c hx => d.K_len hx
  refine ⟨rfl, hl, fun _ => ⟨_, rfl, fun j p hp => ?_⟩⟩
  obtain ⟨c, h1, h2⟩ := Parts.get h j p hp
  refine ⟨c, d.K_len h2, h2, fun i u hu => ?_⟩
  rw [add_plain, cell_of_row _ _ _ _ _ (0, 0) hb]
  have h3 := parts_get d.sz parts (Parts.all hn h) j c h1
  have hi := (List.getElem?_eq_some_iff.1 hu).1
  rw [← h3, List.getElem?_take] at hu
  rw [d.K_len h2] at hi
  rw [if_pos hi, List.getElem?_drop] at hu
  have hlt := (List.getElem?_eq_some_iff.1 hu).1
  rw [Array.getElem?_append_left (by simpa using hlt)]
  simpa using hu
/-- All that the head asks for, of so many rounds. -/
def headOk (k : Nat) : Prop := capital_State.f k 3 exL 73 = some (30000, 300, 300, 0, 600, 0) ∧ capital_State.f k 3 exL 100 = some (30000, 27000, 411, 0, 27411, 0) ∧ capital_Redeem.f k 3 (exL ++ exM) 0 = some (27000, 100, 0) ∧ capital_Redeem.f k 3 exL 0 = some (0, 0, 6) ∧ capital_Valid.f exL = some true
def eq6 (a b : Int × Int × Int × Int × Int × Int) : Bool := a.1 == b.1 && (a.2.1 == b.2.1 && (a.2.2.1 == b.2.2.1 && (a.2.2.2.1 == b.2.2.2.1 && (a.2.2.2.2.1 == b.2.2.2.2.1 && a.2.2.2.2.2 == b.2.2.2.2.2))))
theorem eq6_eq {a b : Int × Int × Int × Int × Int × Int} (h : eq6 a b = true) : a = b := by
  obtain ⟨a1, a2, a3, a4, a5, a6⟩ := a
  obtain ⟨b1, b2, b3, b4, b5, b6⟩ := b
  simp only [eq6, Bool.and_eq_true, beq_iff_eq] at h
  obtain ⟨rfl, rfl, rfl, rfl, rfl, rfl⟩ := h
  rfl
theorem eq6_refl (a : Int × Int × Int × Int × Int × Int) : eq6 a a = true := by simp [eq6]
def eq3 (a b : Int × Int × Int) : Bool := a.1 == b.1 && (a.2.1 == b.2.1 && a.2.2 == b.2.2)
theorem eq3_eq {a b : Int × Int × Int} (h : eq3 a b = true) : a = b := by
  obtain ⟨a1, a2, a3⟩ := a
  obtain ⟨b1, b2, b3⟩ := b
  simp only [eq3, Bool.and_eq_true, beq_iff_eq] at h
  obtain ⟨rfl, rfl, rfl⟩ := h
  rfl
theorem eq3_refl (a : Int × Int × Int) : eq3 a a = true := by simp [eq3]
def cohousinglaw32_head.f (k : Nat) : Option Bool :=
  (capital_State.f k 3 exL 73).bind fun a => (capital_State.f k 3 exL 100).bind fun b => (capital_Redeem.f k 3 (exL ++ exM) 0).bind fun c => (capital_Redeem.f k 3 exL 0).bind fun d => (capital_Valid.f exL).bind fun v =>
    if (eq6 a (30000, 300, 300, 0, 600, 0) && (eq6 b (30000, 27000, 411, 0, 27411, 0) && (eq3 c (27000, 100, 0) && (eq3 d (0, 0, 6) && v)))) = true then some true else none
theorem cohousinglaw32_head.mono (k : Nat) : LeO (cohousinglaw32_head.f k) (cohousinglaw32_head.f (k + 1)) := by
  unfold cohousinglaw32_head.f
  refine LeO.bind (capital_State.mono _ _ _ _) fun a => LeO.bind (capital_State.mono _ _ _ _) fun b => LeO.bind (capital_Redeem.mono _ _ _ _) fun c => LeO.bind (capital_Redeem.mono _ _ _ _) fun d => LeO.bind (LeO.refl _) fun v => LeO.refl _
theorem head_ok {k : Nat} {r : Bool} (h : cohousinglaw32_head.f k = some r) : r = true ∧ headOk k := by
  unfold cohousinglaw32_head.f at h
  obtain ⟨a, ha, h⟩ := Option.bind_eq_some_iff.1 h
  obtain ⟨b, hb, h⟩ := Option.bind_eq_some_iff.1 h
  obtain ⟨c, hc, h⟩ := Option.bind_eq_some_iff.1 h
  obtain ⟨d, hd, h⟩ := Option.bind_eq_some_iff.1 h
  obtain ⟨v, hv, h⟩ := Option.bind_eq_some_iff.1 h
  split at h
  · rename_i hall
    simp only [Bool.and_eq_true] at hall
    obtain ⟨h1, h2, h3, h4, h5⟩ := hall
    rw [eq6_eq h1] at ha
    rw [eq6_eq h2] at hb
    rw [eq3_eq h3] at hc
    rw [eq3_eq h4] at hd
    rw [h5] at hv
    exact ⟨(Option.some.inj h).symm, ha, hb, hc, hd, hv⟩
  · cases h
set_option maxHeartbeats 8000000 in
set_option maxRecDepth 100000 in
theorem head_go (k : Nat) (w : World) (hT : TabOk w) (h : headOk k) : Calls Tryd.prog 10 #[] w fun e w' => e = .returned (.bool true) ∧ Below w.heap.size w w' := by
  obtain ⟨s1, s2, r1, r2, v⟩ := h
  have S1 := Lib.hid s1
  have S2 := Lib.hid s2
  have R1 := Lib.hid r1
  have R2 := Lib.hid r2
  have V := Lib.hid v
  have HT := Lib.hid hT
  clear s1 s2 r1 r2 v hT
  go_enter Tryd.func10, Tryd.ntmps10
  go_wp2_with fail
  refine (ex_calls w).mono ?_
  rintro e w1 ⟨rfl, hw1⟩
  have hC1 : Kd.C k36 w1 (some ⟨w.heap.size, 0, none⟩) exL.length exL := by
    rw [hw1]
    exact C_parts (d := k36) w exL exParts 36 (by simp [exL]) ⟨k36_mk _ _, k36_mk _ _, k36_mk _ _, trivial⟩
  have hO1 : Blk w1 w.heap.size 36 exParts.flatten := by
    rw [hw1]
    exact Blk.new w 36 exParts.flatten
  have hB1 : Below w.heap.size w w1 := by rw [hw1]; exact (Below.refl _ w).alloc (Nat.le_refl _) _
  have hz : w1.heap.size = w.heap.size + 1 := by rw [hw1]; simp
  have HC1 := Lib.hid hC1
  have HO1 := Lib.hid hO1
  have HB1 := Lib.hid hB1
  have HZ := Lib.hid hz
  clear hC1 hO1 hB1 hw1 hz
  go_wp2_with fail
  refine (capital_State.calls k 3 _ 3 exL 73 30000 300 300 0 600 0 w1 HC1.out (by decide) (TabOk.below HT.out HB1.out) S1.out).mono ?_
  rintro e w2 ⟨rfl, hb2⟩
  have HB2 := Lib.hid hb2
  clear hb2
  go_wp2_with fail
  have hb2 : Below w1.heap.size w1 (w2.alloc (Obj.cells #[Value.int IntKind.i64 30000, Value.int IntKind.i64 300, Value.int IntKind.i64 300, Value.int IntKind.i64 0, Value.int IntKind.i64 600] 26)) := HB2.out.alloc HB2.out.size _
  have hbx := Blk.new w2 26 [Value.int IntKind.i64 30000, Value.int IntKind.i64 300, Value.int IntKind.i64 300, Value.int IntKind.i64 0, Value.int IntKind.i64 600]
  rw [show (List.toArray [Value.int IntKind.i64 30000, Value.int IntKind.i64 300, Value.int IntKind.i64 300, Value.int IntKind.i64 0, Value.int IntKind.i64 600]) = #[Value.int IntKind.i64 30000, Value.int IntKind.i64 300, Value.int IntKind.i64 300, Value.int IntKind.i64 0, Value.int IntKind.i64 600] from rfl] at hbx
  generalize w2.alloc (Obj.cells #[Value.int IntKind.i64 30000, Value.int IntKind.i64 300, Value.int IntKind.i64 300, Value.int IntKind.i64 0, Value.int IntKind.i64 600] 26) = w3 at hb2 hbx ⊢
  refine (capital_State.calls k 3 _ 3 exL 100 30000 27000 411 0 27411 0 w3 (Kd.C_below HC1.out hb2) (by decide) (TabOk.below HT.out (HB1.out.trans (Below.mono hb2 (by have := HZ.out; omega)))) S2.out).mono ?_
  rintro e w4 ⟨rfl, hb4⟩
  have HB3 := Lib.hid hb2
  have HB4 := Lib.hid (show Below w1.heap.size w1 w4 from hb2.trans (Below.mono hb4 hb2.size))
  have HX4 := Lib.hid (hbx.below hb4 hbx.lt)
  have hO4 := HO1.out.below (hb2.trans (Below.mono hb4 hb2.size)) HO1.out.lt
  have c := fun o o' i v h => ((hO4.alloc o).alloc o').cell i v h
  have c0 := fun o o' => c o o' 0 _ rfl
  have c1 := fun o o' => c o o' 1 _ rfl
  have c2 := fun o o' => c o o' 2 _ rfl
  have c3 := fun o o' => c o o' 3 _ rfl
  have c4 := fun o o' => c o o' 4 _ rfl
  have c5 := fun o o' => c o o' 5 _ rfl
  have c6 := fun o o' => c o o' 6 _ rfl
  have c7 := fun o o' => c o o' 7 _ rfl
  have c8 := fun o o' => c o o' 8 _ rfl
  have HL4 := Lib.hid (HC1.out)
  clear hb2 hb4 hbx c hO4
  go_wp2_with fail
  have hcap : 5 ≤ (Question.appendCap 5 3 36).cut (w4.tape w4.drawn (Question.appendCap 5 3 36)) := grownCap_ge w4 5 3 36
  generalize (Question.appendCap 5 3 36).cut (w4.tape w4.drawn (Question.appendCap 5 3 36)) = cap at hcap ⊢
  have hb5 : Below w4.heap.size w4 (((w4.alloc (Obj.cells #[Value.int IntKind.i64 30000, Value.int IntKind.i64 27000, Value.int IntKind.i64 411, Value.int IntKind.i64 0, Value.int IntKind.i64 27411] 26)).alloc
      (Obj.cells #[Value.int IntKind.i64 4, Value.int IntKind.i64 100, Value.int IntKind.i64 411, Value.int IntKind.i64 6, Value.int IntKind.i64 100, Value.int IntKind.i64 0] 36)).alloc (Obj.cells
          (#[Value.int IntKind.i64 1, Value.int IntKind.i64 0, Value.int IntKind.i64 30000, Value.int IntKind.i64 3, Value.int IntKind.i64 0, Value.int IntKind.i64 500, Value.int IntKind.i64 2, Value.int IntKind.i64 100, Value.int IntKind.i64 9000] ++
            (#[Value.int IntKind.i64 4, Value.int IntKind.i64 100, Value.int IntKind.i64 411, Value.int IntKind.i64 6, Value.int IntKind.i64 100, Value.int IntKind.i64 0] ++ Builtin.zeroCells #[Value.int IntKind.i64 0, Value.int IntKind.i64 0, Value.int IntKind.i64 0] (cap - 5))) 36)).drew :=
    ((((Below.refl _ w4).alloc (Nat.le_refl _) _).alloc (by simp) _).alloc (by simp; omega) _).drew
  have hn5 := heap_alloc_new ((w4.alloc (Obj.cells #[Value.int IntKind.i64 30000, Value.int IntKind.i64 27000, Value.int IntKind.i64 411, Value.int IntKind.i64 0, Value.int IntKind.i64 27411] 26)).alloc
      (Obj.cells #[Value.int IntKind.i64 4, Value.int IntKind.i64 100, Value.int IntKind.i64 411, Value.int IntKind.i64 6, Value.int IntKind.i64 100, Value.int IntKind.i64 0] 36)) (Obj.cells
          (#[Value.int IntKind.i64 1, Value.int IntKind.i64 0, Value.int IntKind.i64 30000, Value.int IntKind.i64 3, Value.int IntKind.i64 0, Value.int IntKind.i64 500, Value.int IntKind.i64 2, Value.int IntKind.i64 100, Value.int IntKind.i64 9000] ++
            (#[Value.int IntKind.i64 4, Value.int IntKind.i64 100, Value.int IntKind.i64 411, Value.int IntKind.i64 6, Value.int IntKind.i64 100, Value.int IntKind.i64 0] ++ Builtin.zeroCells #[Value.int IntKind.i64 0, Value.int IntKind.i64 0, Value.int IntKind.i64 0] (cap - 5))) 36)
  rw [World.size_alloc, World.size_alloc] at hn5
  have hx5 := (((Blk.new w4 26 [Value.int IntKind.i64 30000, Value.int IntKind.i64 27000, Value.int IntKind.i64 411, Value.int IntKind.i64 0, Value.int IntKind.i64 27411]).alloc (Obj.cells #[Value.int IntKind.i64 4, Value.int IntKind.i64 100, Value.int IntKind.i64 411, Value.int IntKind.i64 6, Value.int IntKind.i64 100, Value.int IntKind.i64 0] 36)).alloc (Obj.cells
          (#[Value.int IntKind.i64 1, Value.int IntKind.i64 0, Value.int IntKind.i64 30000, Value.int IntKind.i64 3, Value.int IntKind.i64 0, Value.int IntKind.i64 500, Value.int IntKind.i64 2, Value.int IntKind.i64 100, Value.int IntKind.i64 9000] ++
            (#[Value.int IntKind.i64 4, Value.int IntKind.i64 100, Value.int IntKind.i64 411, Value.int IntKind.i64 6, Value.int IntKind.i64 100, Value.int IntKind.i64 0] ++ Builtin.zeroCells #[Value.int IntKind.i64 0, Value.int IntKind.i64 0, Value.int IntKind.i64 0] (cap - 5))) 36)).drew
  rw [← Array.append_assoc] at hn5
  have hC5 : Kd.C k36 _ (some ⟨w4.heap.size + 1 + 1, 0, none⟩) (exL ++ exM).length (exL ++ exM) := C_pre (d := k36) (exL ++ exM) (exParts ++ exParts2) _ (t := 36) hn5 (by simp [exL, exM]) ⟨k36_mk _ _, k36_mk _ _, k36_mk _ _, k36_mk _ _, k36_mk _ _, trivial⟩
  have hC5 := Kd.C_drew hC5
  rw [Array.append_assoc] at hC5
  clear hn5 c0 c1 c2 c3 c4 c5 c6 c7 c8
  generalize (((w4.alloc (Obj.cells #[Value.int IntKind.i64 30000, Value.int IntKind.i64 27000, Value.int IntKind.i64 411, Value.int IntKind.i64 0, Value.int IntKind.i64 27411] 26)).alloc
      (Obj.cells #[Value.int IntKind.i64 4, Value.int IntKind.i64 100, Value.int IntKind.i64 411, Value.int IntKind.i64 6, Value.int IntKind.i64 100, Value.int IntKind.i64 0] 36)).alloc (Obj.cells
          (#[Value.int IntKind.i64 1, Value.int IntKind.i64 0, Value.int IntKind.i64 30000, Value.int IntKind.i64 3, Value.int IntKind.i64 0, Value.int IntKind.i64 500, Value.int IntKind.i64 2, Value.int IntKind.i64 100, Value.int IntKind.i64 9000] ++
            (#[Value.int IntKind.i64 4, Value.int IntKind.i64 100, Value.int IntKind.i64 411, Value.int IntKind.i64 6, Value.int IntKind.i64 100, Value.int IntKind.i64 0] ++ Builtin.zeroCells #[Value.int IntKind.i64 0, Value.int IntKind.i64 0, Value.int IntKind.i64 0] (cap - 5))) 36)).drew = w5 at hb5 hx5 hC5 ⊢
  have hb15 : Below w1.heap.size w1 w5 := HB4.out.trans (Below.mono hb5 HB4.out.size)
  have ht : ∀ W, Below w1.heap.size w1 W → TabOk W := fun W h => TabOk.below HT.out (HB1.out.trans (Below.mono h (by have := HZ.out; omega)))
  have hx4 := HX4.out.below hb5 HX4.out.lt
  have HT2 := Lib.hid ht
  have HB5 := Lib.hid hb15
  have HX5 := Lib.hid hx5
  have HY5 := Lib.hid hx4
  have HC5 := Lib.hid hC5
  clear hb5 hx5 hC5 hb15 ht hx4
  refine (capital_Redeem.calls k 3 _ cap (exL ++ exM) 0 27000 100 0 w5 HC5.out hcap (HT2.out _ HB5.out) R1.out).mono ?_
  rintro e w6 ⟨rfl, hb6⟩
  have HB6 := Lib.hid (show Below w1.heap.size w1 w6 from HB5.out.trans (Below.mono hb6 HB5.out.size))
  have HX6 := Lib.hid (HX5.out.below hb6 HX5.out.lt)
  have HY6 := Lib.hid (HY5.out.below hb6 HY5.out.lt)
  clear hb6
  go_wp2_with fail
  refine (capital_Redeem.calls k 3 _ 3 exL 0 0 0 6 w6 (Kd.C_below HC1.out HB6.out) (by decide) (HT2.out _ HB6.out) R2.out).mono ?_
  rintro e w7 ⟨rfl, hb7⟩
  have HB7 := Lib.hid (show Below w1.heap.size w1 w7 from HB6.out.trans (Below.mono hb7 HB6.out.size))
  have HX7 := Lib.hid (HX6.out.below hb7 HX6.out.lt)
  have HY7 := Lib.hid (HY6.out.below hb7 HY6.out.lt)
  clear hb7
  go_wp2_with fail
  refine (capital_Valid.calls _ 3 exL true w7 (Kd.C_below HC1.out HB7.out) (by decide) (HT2.out _ HB7.out) V.out).mono ?_
  rintro e w8 ⟨rfl, hb8⟩
  have hx8 := HX7.out.below hb8 HX7.out.lt
  have hy8 := HY7.out.below hb8 HY7.out.lt
  have x0 := hx8.cell 0 _ rfl
  have x1 := hx8.cell 1 _ rfl
  have x2 := hx8.cell 2 _ rfl
  have x3 := hx8.cell 3 _ rfl
  have x4 := hx8.cell 4 _ rfl
  have y0 := hy8.cell 0 _ rfl
  have y1 := hy8.cell 1 _ rfl
  have y2 := hy8.cell 2 _ rfl
  have y3 := hy8.cell 3 _ rfl
  have y4 := hy8.cell 4 _ rfl
  have HB8 := Lib.hid (show Below w1.heap.size w1 w8 from HB7.out.trans (Below.mono hb8 HB7.out.size))
  clear hx8 hy8 hb8
  go_wp2_with fail
  go_ret
  exact ⟨rfl, HB1.out.trans (Below.mono HB8.out (by have := HZ.out; omega))⟩
theorem cohousinglaw32_head.calls (k : Nat)  (r : Bool) (w : World) (hT : TabOk w) (h : cohousinglaw32_head.f k  = some r) :
    Calls Tryd.prog 10 #[] w fun e w' => e = .returned (.bool r) ∧ Below w.heap.size w w' := by
  have hh := head_ok h
  obtain rfl := hh.1
  exact head_go k w hT hh.2
end Go.Proofs.YtdhnojfpgpjabaaDoor.P
