/- Chapter 32: capital.State: the account out of the stretches. -/
import Derived.Test.YtdhnojfpgpjabaaDoorXcut
import Derived.Test.YtdhnojfpgpjabaaDoorPx5
set_option linter.unusedSimpArgs false
set_option linter.unusedVariables false
namespace Go.Proofs.YtdhnojfpgpjabaaDoor.P
open Go Go.RowKit Go.Proofs.YtdhnojfpgpjabaaDoorW.PrintWords Go.Proofs.YtdhnojfpgpjabaaDoorW.PrintLast Go.Proofs.YtdhnojfpgpjabaaDoorW.PrintMore Go.Proofs.YtdhnojfpgpjabaaDoor.Ord Go.Proofs.YtdhnojfpgpjabaaDoor.OrdI
attribute [local go_sem] Oper.semAt_some

/-- An account, stretch by stretch. -/
structure Acc where
  paid : Int
  value : Int
  interest : Int
  lien : Int
def Acc.cells (a : Acc) : List Value := [.int .i64 a.paid, .int .i64 a.value, .int .i64 a.interest, .int .i64 a.lien, .int .i64 0]
def acc0 : Acc := ⟨0, 0, 0, 0⟩
def stO (k : Nat) (shares : Int) : List (Int × Bk) → Acc → Option (Option Acc)
  | [], a => some (some a)
  | x :: r, a => (capital_fraction.f k (wrap64 (x.2.rate * x.1)) 3650000).bind fun q => (money_Scale.f k x.2.paid q.1 q.2).bind fun c =>
    if c.2 = 0 then (money_Add.f k [a.interest, c.1]).bind fun i => if i.2 = 0 then stO k shares r ⟨x.2.paid, wrap64 (shares * x.2.price), i.1, x.2.lien⟩ else some none else some none
def badB (shares day : Int) (l : List S36) : Bool := decide (shares < 1) || decide (1000 < shares) || decide (day < 0) || decide (36524 < day) || !validV l
def dueV (a : Acc) : Int := max 0 (wrap64 (wrap64 (min a.paid a.value + a.interest) - a.lien))
def endV : Option Acc → Int × Int × Int × Int × Int × Int
  | none => (0, 0, 0, 0, 0, 3)
  | some a => if amtB (dueV a) = true then (a.paid, a.value, a.interest, a.lien, dueV a, 0) else (0, 0, 0, 0, 0, 3)
def capital_State.f (k : Nat) (a0 : Int) (l1 : List (S36)) (a2 : Int) : Option (Int × Int × Int × Int × Int × Int) :=
  if badB a0 a2 l1 = true then some (0, 0, 0, 0, 0, 1) else (stO k a0 (strV l1 a2) acc0).map endV
theorem stO_mono (k : Nat) (shares : Int) : ∀ (l : List (Int × Bk)) (a : Acc), LeO (stO k shares l a) (stO (k + 1) shares l a)
  | [], a => LeO.refl _
  | x :: r, a => by
    unfold stO
    refine LeO.bind (capital_fraction.mono _ _ _) fun q => LeO.bind (money_Scale.mono _ _ _ _) fun c => LeO.ite (LeO.bind (money_Add.mono _ _) fun i => LeO.ite (stO_mono k shares r _) (LeO.refl _)) (LeO.refl _)
theorem capital_State.mono (a0 : Int) (l1 : List S36) (a2 : Int) (k : Nat) : LeO (capital_State.f k a0 l1 a2) (capital_State.f (k + 1) a0 l1 a2) := by
  unfold capital_State.f
  refine LeO.ite (LeO.refl _) ?_
  intro r h
  obtain ⟨o, h1, h2⟩ := Option.map_eq_some_iff.1 h
  exact Option.map_eq_some_iff.2 ⟨o, stO_mono _ _ _ _ _ h1, h2⟩

theorem str_calls (A : Option Addr) (n c : Nat) (day : Int) (w : World) :
    Calls Tryd.prog 22 #[.slice A n c, .int .i64 day] w fun e w' => e = .returned (.func (.func 32) #[] #[.pointer (some ⟨w.heap.size, 0, none⟩), .pointer (some ⟨w.heap.size + 1, 0, none⟩)]) ∧ w' = (w.alloc (.cells #[.slice A n c] 22)).alloc (.cells #[.int .i64 day] 3) := by
  go_enter Tryd.func22, Tryd.ntmps22
  go_wp2_with fail
  go_ret
  exact ⟨rfl, rfl⟩

theorem state_ret {R : Ending → World → Prop} {a : Act} {W : World} {B1 B2 : Nat} (x0 x1 x2 x3 x4 e : Int) (hd : a.defers = []) (h6 : a.tmps[6]?.getD undef = .pointer (some ⟨B1, 0, none⟩)) (h7 : a.tmps[7]?.getD undef = .pointer (some ⟨B2, 0, none⟩))
    (b1 : Blk W B1 26 [.int .i64 x0, .int .i64 x1, .int .i64 x2, .int .i64 x3, .int .i64 x4]) (b2 : Blk W B2 27 [.int .i64 e]) (hR : R (.returned (.tuple #[.agg #[.int .i64 x0, .int .i64 x1, .int .i64 x2, .int .i64 x3, .int .i64 x4], .int .i64 e])) W) :
    bodyPost Tryd.prog Tryd.f12 R .ret a W := by
  have c0 := b1.cell 0 _ rfl
  have c1 := b1.cell 1 _ rfl
  have c2 := b1.cell 2 _ rfl
  have c3 := b1.cell 3 _ rfl
  have c4 := b1.cell 4 _ rfl
  have d0 := b2.cell 0 _ rfl
  refine bodyPost_ret (v := .tuple #[.agg #[.int .i64 x0, .int .i64 x1, .int .i64 x2, .int .i64 x3, .int .i64 x4], .int .i64 e]) ?_ hd hR
  simp [results, Tryd.f12, go_sem, c0, c1, c2, c3, c4, d0, h6, h7]
/-- The world behind State's first boxes. -/
def stW (w : World) (shares : Int) : World := (((w.alloc (Obj.cells #[Value.int IntKind.i64 shares] 3)).alloc (Obj.cells #[Value.int IntKind.i64 0, Value.int IntKind.i64 0, Value.int IntKind.i64 0, Value.int IntKind.i64 0, Value.int IntKind.i64 0] 26)).alloc (Obj.cells #[Value.int IntKind.i64 0] 27))
theorem stW_size (w : World) (shares : Int) : (stW w shares).heap.size = w.heap.size + 3 := by simp [stW]
theorem stW_below (w : World) (shares : Int) : Below w.heap.size w (stW w shares) := (((Below.refl _ w).alloc (Nat.le_refl _) _).alloc (by simp) _).alloc (by simp; omega) _
/-- State's boxes: the shares, the account and the error that are handed back. -/
structure Boxes (w W : World) (shares : Int) : Prop where
  sh : Blk W w.heap.size 3 [.int .i64 shares]
  acc : Blk W (w.heap.size + 1) 26 [.int .i64 0, .int .i64 0, .int .i64 0, .int .i64 0, .int .i64 0]
  err : Blk W (w.heap.size + 1 + 1) 27 [.int .i64 0]
  low : Below w.heap.size w W
theorem Boxes.size {w W : World} {shares : Int} (h : Boxes w W shares) : w.heap.size + 3 ≤ W.heap.size := by have := h.err.lt; omega
theorem boxes_first (w : World) (shares : Int) : Boxes w (stW w shares) shares := by
  refine ⟨((Blk.new w 3 [.int .i64 shares]).alloc _).alloc _, ?_, ?_, stW_below w shares⟩
  · have h := (Blk.new (w.alloc (Obj.cells #[Value.int IntKind.i64 shares] 3)) 26 [Value.int IntKind.i64 0, Value.int IntKind.i64 0, Value.int IntKind.i64 0, Value.int IntKind.i64 0, Value.int IntKind.i64 0]).alloc (Obj.cells #[Value.int IntKind.i64 0] 27)
    rwa [World.size_alloc] at h
  · have h := Blk.new ((w.alloc (Obj.cells #[Value.int IntKind.i64 shares] 3)).alloc (Obj.cells #[Value.int IntKind.i64 0, Value.int IntKind.i64 0, Value.int IntKind.i64 0, Value.int IntKind.i64 0, Value.int IntKind.i64 0] 26)) 27 [Value.int IntKind.i64 0]
    rwa [World.size_alloc, World.size_alloc] at h
theorem Boxes.below {w W W' : World} {shares : Int} {n : Nat} (h : Boxes w W shares) (hb : Below n W W') (hn : w.heap.size + 3 ≤ n) : Boxes w W' shares :=
  ⟨h.sh.below hb (by omega), h.acc.below hb (by omega), h.err.below hb (by omega), h.low.trans (Below.mono hb (by omega))⟩
/-- An account and an error, stored into the boxes. -/
def outW (W : World) (s : Nat) (x0 x1 x2 x3 x4 e : Int) : World :=
  ((((((W.setCell { block := s + 1, off := 0 } (Value.int IntKind.i64 x0)).setCell { block := s + 1, off := 1 } (Value.int IntKind.i64 x1)).setCell { block := s + 1, off := 2 } (Value.int IntKind.i64 x2)).setCell { block := s + 1, off := 3 } (Value.int IntKind.i64 x3)).setCell { block := s + 1, off := 4 } (Value.int IntKind.i64 x4)).setCell { block := s + 1 + 1, off := 0 } (Value.int IntKind.i64 e))
theorem outW_but (W : World) (s : Nat) (x0 x1 x2 x3 x4 e : Int) : KeepsBut (fun k => k = s + 1 ∨ k = s + 1 + 1) W (outW W s x0 x1 x2 x3 x4 e) :=
  (((((KeepsBut.set W _ _ _ (.inl rfl)).trans (KeepsBut.set _ _ _ _ (.inl rfl))).trans (KeepsBut.set _ _ _ _ (.inl rfl))).trans (KeepsBut.set _ _ _ _ (.inl rfl))).trans (KeepsBut.set _ _ _ _ (.inl rfl))).trans (KeepsBut.set _ _ _ _ (.inr rfl))
theorem outW_acc {W : World} {s : Nat} (x0 x1 x2 x3 x4 e : Int) {vs : List Value} (hl : vs.length = 5) (h : Blk W (s + 1) 26 vs) : Blk (outW W s x0 x1 x2 x3 x4 e) (s + 1) 26 [.int .i64 x0, .int .i64 x1, .int .i64 x2, .int .i64 x3, .int .i64 x4] := by
  match vs, hl with
  | [_, _, _, _, _], _ => exact ((((((h.set 0 _).set 1 _).set 2 _).set 3 _).set 4 _).other (by omega) 0 _)
theorem outW_err {W : World} {s : Nat} (x0 x1 x2 x3 x4 e : Int) {v : Value} (h : Blk W (s + 1 + 1) 27 [v]) : Blk (outW W s x0 x1 x2 x3 x4 e) (s + 1 + 1) 27 [.int .i64 e] :=
  ((((((h.other (by omega) 0 _).other (by omega) 1 _).other (by omega) 2 _).other (by omega) 3 _).other (by omega) 4 _).set 0 _)
theorem outW_low {w W : World} (x0 x1 x2 x3 x4 e : Int) (h : Below w.heap.size w W) : Below w.heap.size w (outW W w.heap.size x0 x1 x2 x3 x4 e) :=
  h.trans ((outW_but W _ x0 x1 x2 x3 x4 e).below h.size (fun k hk => by omega))
theorem state_out {R : Ending → World → Prop} {a : Act} {w W : World} {shares : Int} (h : Boxes w W shares) (x0 x1 x2 x3 x4 e : Int) (hd : a.defers = []) (h6 : a.tmps[6]?.getD undef = .pointer (some ⟨w.heap.size + 1, 0, none⟩)) (h7 : a.tmps[7]?.getD undef = .pointer (some ⟨w.heap.size + 1 + 1, 0, none⟩))
    (hR : ∀ W', Below w.heap.size w W' → R (.returned (.tuple #[.agg #[.int .i64 x0, .int .i64 x1, .int .i64 x2, .int .i64 x3, .int .i64 x4], .int .i64 e])) W') : bodyPost Tryd.prog Tryd.f12 R .ret a (outW W w.heap.size x0 x1 x2 x3 x4 e) :=
  state_ret x0 x1 x2 x3 x4 e hd h6 h7 (outW_acc x0 x1 x2 x3 x4 e rfl h.acc) (outW_err x0 x1 x2 x3 x4 e h.err) (hR _ (outW_low _ _ _ _ _ _ h.low))
set_option maxRecDepth 100000 in
set_option maxHeartbeats 4000000 in
theorem State_bad (A : Option Addr) (c : Nat) (l : List S36) (shares day : Int) (w : World) (hr : Kd.C k36 w A l.length l) (hc : l.length ≤ c) (hT : TabOk w) (hb : badB shares day l = true) :
    Calls Tryd.prog 12 #[.int .i64 shares, .slice A l.length c, .int .i64 day] w fun e w' => e = .returned (.tuple #[.agg #[.int .i64 0, .int .i64 0, .int .i64 0, .int .i64 0, .int .i64 0], .int .i64 1]) ∧ Below w.heap.size w w' := by
  have FIN : ∀ (a : Act), a.defers = [] → a.tmps[6]?.getD undef = .pointer (some ⟨w.heap.size + 1, 0, none⟩) → a.tmps[7]?.getD undef = .pointer (some ⟨w.heap.size + 1 + 1, 0, none⟩) →
      bodyPost Tryd.prog Tryd.f12 (fun e w' => e = .returned (.tuple #[.agg #[.int .i64 0, .int .i64 0, .int .i64 0, .int .i64 0, .int .i64 0], .int .i64 1]) ∧ Below w.heap.size w w') .ret a
        (((w.alloc (Obj.cells #[Value.int IntKind.i64 shares] 3)).alloc (Obj.cells #[Value.int IntKind.i64 0, Value.int IntKind.i64 0, Value.int IntKind.i64 0, Value.int IntKind.i64 0, Value.int IntKind.i64 0] 26)).alloc (Obj.cells #[Value.int IntKind.i64 1] 27)) := by
    intro a hd h6 h7
    refine state_ret 0 0 0 0 0 1 hd h6 h7 ?_ ?_ ⟨rfl, (((Below.refl _ w).alloc (Nat.le_refl _) _).alloc (by simp) _).alloc (by simp; omega) _⟩
    · have h := (Blk.new (w.alloc (Obj.cells #[Value.int IntKind.i64 shares] 3)) 26 [Value.int IntKind.i64 0, Value.int IntKind.i64 0, Value.int IntKind.i64 0, Value.int IntKind.i64 0, Value.int IntKind.i64 0]).alloc (Obj.cells #[Value.int IntKind.i64 1] 27)
      rwa [World.size_alloc] at h
    · have h := Blk.new ((w.alloc (Obj.cells #[Value.int IntKind.i64 shares] 3)).alloc (Obj.cells #[Value.int IntKind.i64 0, Value.int IntKind.i64 0, Value.int IntKind.i64 0, Value.int IntKind.i64 0, Value.int IntKind.i64 0] 26)) 27 [Value.int IntKind.i64 1]
      rwa [World.size_alloc, World.size_alloc] at h
  have HF := Lib.hid FIN
  clear FIN
  unfold badB at hb
  by_cases q1 : shares < 1
  · have d1 := decide_eq_true q1
    clear q1 hb hr hc hT
    go_enter Tryd.func12, Tryd.ntmps12
    go_wp2_with fail
    exact HF.out _ rfl rfl rfl
  have d1 := decide_eq_false q1
  by_cases q2 : 1000 < shares
  · have d2 := decide_eq_true q2
    clear q1 q2 hb hr hc hT
    go_enter Tryd.func12, Tryd.ntmps12
    go_wp2_with fail
    exact HF.out _ rfl rfl rfl
  have d2 := decide_eq_false q2
  by_cases q3 : day < 0
  · have d3 := decide_eq_true q3
    clear q1 q2 q3 hb hr hc hT
    go_enter Tryd.func12, Tryd.ntmps12
    go_wp2_with fail
    exact HF.out _ rfl rfl rfl
  have d3 := decide_eq_false q3
  by_cases q4 : 36524 < day
  · have d4 := decide_eq_true q4
    clear q1 q2 q3 q4 hb hr hc hT
    go_enter Tryd.func12, Tryd.ntmps12
    go_wp2_with fail
    exact HF.out _ rfl rfl rfl
  have d4 := decide_eq_false q4
  have hv : validV l = false := by simpa [q1, q2, q3, q4] using hb
  have hB : Below w.heap.size w (((w.alloc (Obj.cells #[Value.int IntKind.i64 shares] 3)).alloc (Obj.cells #[Value.int IntKind.i64 0, Value.int IntKind.i64 0, Value.int IntKind.i64 0, Value.int IntKind.i64 0, Value.int IntKind.i64 0] 26)).alloc (Obj.cells #[Value.int IntKind.i64 0] 27)) := (((Below.refl _ w).alloc (Nat.le_refl _) _).alloc (by simp) _).alloc (by simp; omega) _
  have C := capital_Valid.go A c l _ (Kd.C_below hr hB) (TabOk.below hT hB)
  rw [hv] at C
  have C := Lib.hid C
  have HB := Lib.hid hB
  clear q1 q2 q3 q4 hb hr hc hT hv hB HF
  go_enter Tryd.func12, Tryd.ntmps12
  go_wp2_with fail
  refine C.out.mono ?_
  rintro e w1 ⟨rfl, hb1⟩
  have hbx : Boxes w w1 shares := (boxes_first w shares).below hb1 (by simp)
  have a0 := hbx.acc.cell 0 _ rfl
  have a1 := hbx.acc.cell 1 _ rfl
  have a2 := hbx.acc.cell 2 _ rfl
  have a3 := hbx.acc.cell 3 _ rfl
  have a4 := hbx.acc.cell 4 _ rfl
  have af := fun j => hbx.acc.frozen j
  have r0 := hbx.err.cell 0 _ rfl
  have rf := hbx.err.frozen 0
  have HBX := Lib.hid hbx
  clear hbx hb1
  go_wp2_with fail
  exact state_out HBX.out 0 0 0 0 0 1 rfl rfl rfl (fun W' h => ⟨rfl, h⟩)
/-- The way out behind a range over a function: the mark is taken. -/
theorem state_endM {n : Nat} {R : Ending → World → Prop} {a : Act} {w W : World} {D : Nat} {x0 x1 x2 x3 x4 e : Int} (b1 : Blk W (w.heap.size + 1) 26 [.int .i64 x0, .int .i64 x1, .int .i64 x2, .int .i64 x3, .int .i64 x4]) (b2 : Blk W (w.heap.size + 1 + 1) 27 [.int .i64 e])
    (hlow : Below w.heap.size w W) (hD : W.heap[D]? = some (.deferred (some []))) (hDw : w.heap.size + 3 ≤ D) (hd : a.defers = [{ target := .collected D, args := #[] }]) (h6 : a.tmps[6]?.getD undef = .pointer (some ⟨w.heap.size + 1, 0, none⟩)) (h7 : a.tmps[7]?.getD undef = .pointer (some ⟨w.heap.size + 1 + 1, 0, none⟩))
    (hR : ∀ W', Below w.heap.size w W' → R (.returned (.tuple #[.agg #[.int .i64 x0, .int .i64 x1, .int .i64 x2, .int .i64 x3, .int .i64 x4], .int .i64 e])) W') : bodyPostM Fence.wide n Tryd.prog Tryd.f12 R .ret a W := by
  have hk : KeepsBut (fun k => k = D) W (W.putObj D (.deferred none)) := KeepsBut.putObj _ _ _ rfl
  have c1 := b1.but hk (by omega)
  have c2 := b2.but hk (by omega)
  have c0 := c1.cell 0 _ rfl
  have e1 := c1.cell 1 _ rfl
  have e2 := c1.cell 2 _ rfl
  have e3 := c1.cell 3 _ rfl
  have e4 := c1.cell 4 _ rfl
  have d0 := c2.cell 0 _ rfl
  show LeavesInM Fence.wide n Tryd.prog Tryd.f12 a.tmps R a.defers .returning W
  rw [hd]
  refine ⟨by simp, .inl ⟨_, _, rfl, run_takeDeferred hD, ?_⟩⟩
  refine ⟨_, ?_, hR _ (hlow.trans (hk.below hlow.size (fun k hk => by omega)))⟩
  simp [results, Tryd.f12, go_sem, c0, e1, e2, e3, e4, d0, h6, h7]
theorem state_outM {n : Nat} {R : Ending → World → Prop} {a : Act} {w W : World} {shares : Int} {D : Nat} (h : Boxes w W shares) (hD : W.heap[D]? = some (.deferred (some []))) (hDw : w.heap.size + 3 ≤ D) (x0 x1 x2 x3 x4 e : Int) (hd : a.defers = [{ target := .collected D, args := #[] }])
    (h6 : a.tmps[6]?.getD undef = .pointer (some ⟨w.heap.size + 1, 0, none⟩)) (h7 : a.tmps[7]?.getD undef = .pointer (some ⟨w.heap.size + 1 + 1, 0, none⟩))
    (hR : ∀ W', Below w.heap.size w W' → R (.returned (.tuple #[.agg #[.int .i64 x0, .int .i64 x1, .int .i64 x2, .int .i64 x3, .int .i64 x4], .int .i64 e])) W') : bodyPostM Fence.wide n Tryd.prog Tryd.f12 R .ret a (outW W w.heap.size x0 x1 x2 x3 x4 e) :=
  state_endM (outW_acc x0 x1 x2 x3 x4 e rfl h.acc) (outW_err x0 x1 x2 x3 x4 e h.err) (outW_low _ _ _ _ _ _ h.low) (((outW_but W _ x0 x1 x2 x3 x4 e).block D (Array.getElem?_eq_some_iff.1 hD).1 (by omega)).trans hD) hDw hd h6 h7 hR
set_option maxRecDepth 100000 in
set_option maxHeartbeats 4000000 in
theorem State_good (k : Nat) (A : Option Addr) (c : Nat) (l : List S36) (shares day : Int) (w : World) (hr : Kd.C k36 w A l.length l) (hc : l.length ≤ c) (hT : TabOk w) (hb : badB shares day l = false) (o : Option Acc) (ho : stO k shares (strV l day) acc0 = some o) :
    Calls Tryd.prog 12 #[.int .i64 shares, .slice A l.length c, .int .i64 day] w fun e w' => (∃ r, r = endV o ∧ e = .returned (.tuple #[.agg #[.int .i64 r.1, .int .i64 r.2.1, .int .i64 r.2.2.1, .int .i64 r.2.2.2.1, .int .i64 r.2.2.2.2.1], .int .i64 r.2.2.2.2.2])) ∧ Below w.heap.size w w' := by
  unfold badB at hb
  simp only [Bool.or_eq_false_iff] at hb
  obtain ⟨⟨⟨⟨d1, d2⟩, d3⟩, d4⟩, hv⟩ := hb
  have C := capital_Valid.go A c l _ (Kd.C_below hr (stW_below w shares)) (TabOk.below hT (stW_below w shares))
  rw [show validV l = true from by simpa using hv] at C
  have C := Lib.hid C
  have HR := Lib.hid hr
  have HT := Lib.hid hT
  have HO := Lib.hid ho
  have HC := Lib.hid hc
  clear hv hr hT ho hc
  refine (callsIn_wide (n := 4)).1 ?_
  refine callsIn_of_wp_marks Tryd.func12 rfl trivial ?_ rfl
  simp only [Tryd.ntmps12, List.size_toArray, List.length_cons, List.length_nil, Nat.reduceAdd, Nat.reduceSub, Array.replicate_succ, Array.replicate_zero, List.push_toArray, List.append_toArray, List.nil_append, List.cons_append]
  refine wpIn_wide.2 ?_
  go_wp2_with fail
  refine C.out.mono ?_
  rintro e w1 ⟨rfl, hb1⟩
  have hbx : Boxes w w1 shares := (boxes_first w shares).below hb1 (by rw [stW_size]; omega)
  have HBX := Lib.hid hbx
  clear hbx hb1 C
  go_wp2_with fail
  obtain ⟨W1, hW1⟩ : ∃ W1, w1.alloc (Obj.cells #[Value.int IntKind.i64 0, Value.int IntKind.i64 0, Value.int IntKind.i64 0, Value.int IntKind.i64 0, Value.int IntKind.i64 0] 26) = W1 := ⟨_, rfl⟩
  have ha1 : Blk W1 w1.heap.size 26 acc0.cells := by rw [← hW1]; exact Blk.new w1 _ _
  have hbx1 : Boxes w W1 shares := by rw [← hW1]; exact HBX.out.below ((Below.refl _ w1).alloc (Nat.le_refl _) _) HBX.out.size
  have hs1 : W1.heap.size = w1.heap.size + 1 := by rw [← hW1]; simp
  rw [hW1]
  clear hW1
  refine (str_calls A l.length c day W1).mono ?_
  rintro e w2 ⟨rfl, hw2⟩
  have hl2 : Blk w2 W1.heap.size 22 [.slice A l.length c] := by rw [hw2]; exact (Blk.new W1 _ _).alloc _
  have hd2 : Blk w2 (W1.heap.size + 1) 3 [.int .i64 day] := by
    rw [hw2]
    have h := Blk.new (W1.alloc (.cells #[.slice A l.length c] 22)) 3 [.int .i64 day]
    rwa [World.size_alloc] at h
  have hb2 : Below W1.heap.size W1 w2 := by rw [hw2]; exact ((Below.refl _ W1).alloc (Nat.le_refl _) _).alloc (by simp) _
  have hs2 : w2.heap.size = W1.heap.size + 2 := by rw [hw2]; simp
  have hbx2 : Boxes w w2 shares := hbx1.below hb2 (by have := HBX.out.size; omega)
  have ha2 := ha1.below hb2 (by omega)
  have hsz := HBX.out.size
  clear hw2 hb2 ha1 hbx1
  have HB2 := Lib.hid hbx2
  have HA2 := Lib.hid ha2
  have HL2 := Lib.hid hl2
  have HD2 := Lib.hid hd2
  have HS1 := Lib.hid hs1
  have HS2 := Lib.hid hs2
  have HSZ := Lib.hid hsz
  clear hbx2 ha2 hl2 hd2 hs1 hs2 hsz
  go_wp2_with fail
  have hs1 := HS1.out
  have hs2 := HS2.out
  have hsz := HSZ.out
  have hle := HR.out.2.1
  refine (wpIn_wide (n := 4)).1 ?_
  refine wpIn_rangeFunc_rf (m := 1) rfl (by omega) (gf := 32) (lb := #[.pointer (some ⟨W1.heap.size, 0, none⟩), .pointer (some ⟨W1.heap.size + 1, 0, none⟩)]) rfl trivial (enters_of Tryd.func32 (by kernel_rfl) rfl)
    (iter_seq A c l day w w2 W1.heap.size W1.heap.size (W1.heap.size + 1) HR.out HT.out hle HB2.out.low (by omega) (Nat.le_refl _) (by omega) HL2.out HD2.out) (fun k hk => by omega) (fun _ => rfl)
    (fun pre W => ∃ a : Acc, Hid (∀ r, stO k shares (pre ++ r) acc0 = stO k shares r a) ∧ Boxes w W shares ∧ Blk W w1.heap.size 26 a.cells)
    (fun cc pre W => (cc = .ret ∧ o = none) ∧ Blk W (w.heap.size + 1) 26 [.int .i64 0, .int .i64 0, .int .i64 0, .int .i64 0, .int .i64 0] ∧ Blk W (w.heap.size + 1 + 1) 27 [.int .i64 3] ∧ Below w.heap.size w W)
    (fun s X Y ⟨a, h1, h2, h3⟩ hXY => ⟨a, h1, h2.below hXY (by omega), h3.below hXY (by omega)⟩)
    (fun cc s X Y ⟨h1, h2, h3, h4⟩ hXY => ⟨h1, h2.below hXY (by omega), h3.below hXY (by omega), h4.trans (Below.mono hXY (by omega))⟩)
    ⟨acc0, fun r => rfl, HB2.out, HA2.out⟩
    (fun x a' W => ∃ Bx, w2.heap.size + 1 < Bx ∧ Blk W Bx 46 [.int .i64 x.2.paid, .int .i64 x.2.lien, .int .i64 x.2.price, .int .i64 x.2.rate] ∧ a' = { tmps := #[Value.int IntKind.i64 shares, Value.slice A l.length c, Value.int IntKind.i64 day,
          Value.pointer (some { block := w.heap.size, off := 0 }), undef, undef,
          Value.pointer (some { block := w.heap.size + 1, off := 0 }),
          Value.pointer (some { block := w.heap.size + 1 + 1, off := 0 }),
          Value.pointer (some { block := w1.heap.size, off := 0 }), .int .i64 x.1, .pointer (some ⟨Bx, 0, none⟩), undef, undef,
          Value.int IntKind.i64 shares, Value.bool false, Value.bool false, Value.int IntKind.i64 shares,
          Value.bool false, Value.bool false, Value.bool false, Value.int IntKind.i64 day, Value.bool false,
          Value.bool false, Value.bool false, Value.int IntKind.i64 day, Value.bool false, Value.bool false,
          Value.bool false, Value.slice A l.length c, Value.bool true, Value.bool false, Value.bool false, undef,
          Value.slice A l.length c, Value.int IntKind.i64 day,
          Value.func (Fn.func 32) #[]
            #[Value.pointer (some { block := W1.heap.size, off := 0 }),
              Value.pointer (some { block := W1.heap.size + 1, off := 0 })],
          .int .i64 x.1, .agg #[.int .i64 x.2.paid, .int .i64 x.2.lien, .int .i64 x.2.price, .int .i64 x.2.rate], undef, undef, undef, undef, undef, undef, undef, undef, undef, undef, undef, undef, undef, undef, undef, undef, undef, undef, undef, undef, undef, undef, undef, undef, undef, undef, undef, undef, undef, undef, undef, undef, undef, undef, undef, undef, undef, undef, undef, undef, undef, undef, undef, undef, undef, undef, undef, undef, undef, undef, undef, undef, undef, undef, undef, undef], defers := [] })
    (fun x a' X o ⟨Bx, h1, h2, h3⟩ => ⟨Bx, h1, h2.but (KeepsBut.putObj (T := fun k => k = w2.heap.size + 1) X _ o rfl) (by omega), h3⟩)
    ?assign ?body ?done ?stop
  case assign =>
    rintro lr pre x W K hlt ⟨a, hst, hbx, hac⟩ hsp hK
    clear hs1 hs2 hsz
    unfold encS
    gi_wp2
    exact hK _ _ (KeepsBut.alloc _ _) ⟨a, hst, hbx.below ((Below.refl _ W).alloc (Nat.le_refl _) _) (by have := hbx.size; omega), hac.alloc _⟩ ⟨W.heap.size, hlt, Blk.new W _ _, rfl⟩
  case body =>
    rintro lr pre x a' W hlt ⟨a, hst, hbx, hac⟩ ⟨rest, hsp⟩ ⟨Bx, hBx, hbb, rfl⟩
    have hF : ∀ f, (Fence.wide.inRound lr).fn f := fun _ => trivial
    have hall : stO k shares (x :: rest) a = some o := by
      have h := HO.out
      rw [← hsp, List.append_assoc, hst.out] at h
      exact h
    have hstx : Hid (∀ r i cc, cc.2 = 0 → (∃ q, capital_fraction.f k (wrap64 (x.2.rate * x.1)) 3650000 = some q ∧ money_Scale.f k x.2.paid q.1 q.2 = some cc) → money_Add.f k [a.interest, cc.1] = some i → i.2 = 0 → stO k shares (pre ++ [x] ++ r) acc0 = stO k shares r ⟨x.2.paid, wrap64 (shares * x.2.price), i.1, x.2.lien⟩) := by
      unfold Hid
      rintro r i cc h1 ⟨q, h2, h3⟩ h4 h5
      rw [List.append_assoc, hst.out, List.singleton_append, stO, h2, Option.bind_some, h3, Option.bind_some, if_pos h1, h4, Option.bind_some, if_pos h5]
    unfold stO at hall
    obtain ⟨q, hq, hall⟩ := Option.bind_eq_some_iff.1 hall
    obtain ⟨cc, hcc, hall⟩ := Option.bind_eq_some_iff.1 hall
    have HQ := Lib.hid hq
    have HCC := Lib.hid hcc
    have HALL := Lib.hid hall
    have HBX := Lib.hid hbx
    have HAC := Lib.hid hac
    have HBB := Lib.hid hbb
    have HLT := Lib.hid hlt
    have hBl := hbb.lt
    have p0 := fun W' (hW : Held (Below W.heap.size W) W') => (hbb.below hW hBl).cell 0 _ rfl
    have p3 := fun W' (hW : Held (Below W.heap.size W) W') => (hbb.below hW hBl).cell 3 _ rfl
    clear hq hcc hall hst hsp hs1 hs2 hsz hbx hac hbb hlt
    gi_wp2
    refine wpIn_region_auto (Below W.heap.size W) ((0, none, none) :: (0, none, none) :: (0, none, none) :: (0, none, none) :: (0, none, none) :: (0, none, none) :: (0, none, some true) :: (0, none, some true) :: (0, none, some true) :: (0, none, none) :: (0, none, none) :: (0, none, some true) :: (0, none, some false) :: []) hF (by kernel_rfl) (by kernel_rfl) (fun _ _ d _ _ h => by cases d <;> exact h) ((Below.refl _ W).drew) ?_
    repeat' (first
      | (with_reducible apply relI_pass
         focus (intro W hW; first | (go_simp; exact rfl) | go_simp)
         simp only [Act.put, List.setIfInBounds_toArray, List.set_cons_zero, List.set_cons_succ])
      | (with_reducible apply relI_yes
         focus (exact rfl))
      | (with_reducible apply relI_no
         focus (exact rfl)
         simp only [Act.put, List.setIfInBounds_toArray, List.set_cons_zero, List.set_cons_succ])
      | (with_reducible apply relI_askF
         focus (exact rfl)
         all_goals (intro hb; simp only [hb, Act.put, List.setIfInBounds_toArray, List.set_cons_zero, List.set_cons_succ]))
      | (with_reducible apply relI_askT
         focus (exact rfl)
         all_goals (intro hb; simp only [hb, Act.put, List.setIfInBounds_toArray, List.set_cons_zero, List.set_cons_succ]))
      | (with_reducible apply relI_front1)
      | (with_reducible apply relI_front2)
      | (with_reducible apply relI_front3)
      | (with_reducible apply relI_front4)
      | (with_reducible apply relI_front5)
      | (with_reducible apply relI_front6))
    apply relI_act hF rfl
    intro K hK
    go_simp
    rw [IntWalk.i64_left]
    refine (CallsIn.inRound lr (callsIn_wide.2 (capital_fraction.calls k _ _ q.1 q.2 _ HQ.out))).mono ?_
    rintro e W3 ⟨rfl, hb3⟩
    have hW3 : Below W.heap.size W W3 := below_step ((Below.refl _ W).drew) hb3
    refine hK _ _ ⟨fun _ => hW3, ?_⟩
    clear hK K
    try simp only [Act.put, List.setIfInBounds_toArray, List.set_cons_zero, List.set_cons_succ]
    repeat' (first
      | (with_reducible apply relI_pass
         focus (intro W hW; first | (go_simp; exact rfl) | go_simp)
         simp only [Act.put, List.setIfInBounds_toArray, List.set_cons_zero, List.set_cons_succ])
      | (with_reducible apply relI_yes
         focus (exact rfl))
      | (with_reducible apply relI_no
         focus (exact rfl)
         simp only [Act.put, List.setIfInBounds_toArray, List.set_cons_zero, List.set_cons_succ])
      | (with_reducible apply relI_askF
         focus (exact rfl)
         all_goals (intro hb; simp only [hb, Act.put, List.setIfInBounds_toArray, List.set_cons_zero, List.set_cons_succ]))
      | (with_reducible apply relI_askT
         focus (exact rfl)
         all_goals (intro hb; simp only [hb, Act.put, List.setIfInBounds_toArray, List.set_cons_zero, List.set_cons_succ]))
      | (with_reducible apply relI_front1)
      | (with_reducible apply relI_front2)
      | (with_reducible apply relI_front3)
      | (with_reducible apply relI_front4)
      | (with_reducible apply relI_front5)
      | (with_reducible apply relI_front6))
    apply relI_act hF rfl
    intro K hK
    go_simp
    refine (CallsIn.inRound lr (callsIn_wide.2 (money_Scale.calls k _ _ _ cc.1 cc.2 _ HCC.out))).mono ?_
    rintro e W4 ⟨rfl, hb4⟩
    have hW4 : Below W.heap.size W W4 := below_step hW3 hb4
    refine hK _ _ ⟨fun _ => hW4, ?_⟩
    clear hK K
    try simp only [Act.put, List.setIfInBounds_toArray, List.set_cons_zero, List.set_cons_succ]
    apply relI_act hF rfl
    intro K hK
    go_simp
    refine hK _ _ ⟨fun _ => hW4, ?_⟩
    clear hK K
    try simp only [Act.put, List.setIfInBounds_toArray, List.set_cons_zero, List.set_cons_succ]
    repeat' (first
      | (with_reducible apply relI_pass
         focus (intro W hW; first | (go_simp; exact rfl) | go_simp)
         simp only [Act.put, List.setIfInBounds_toArray, List.set_cons_zero, List.set_cons_succ])
      | (with_reducible apply relI_yes
         focus (exact rfl))
      | (with_reducible apply relI_no
         focus (exact rfl)
         simp only [Act.put, List.setIfInBounds_toArray, List.set_cons_zero, List.set_cons_succ])
      | (with_reducible apply relI_askF
         focus (exact rfl)
         all_goals (intro hb; simp only [hb, Act.put, List.setIfInBounds_toArray, List.set_cons_zero, List.set_cons_succ]))
      | (with_reducible apply relI_askT
         focus (exact rfl)
         all_goals (intro hb; simp only [hb, Act.put, List.setIfInBounds_toArray, List.set_cons_zero, List.set_cons_succ]))
      | (with_reducible apply relI_front1)
      | (with_reducible apply relI_front2)
      | (with_reducible apply relI_front3)
      | (with_reducible apply relI_front4)
      | (with_reducible apply relI_front5)
      | (with_reducible apply relI_front6))
    apply relI_act hF rfl
    intro K hK
    go_simp
    refine hK _ _ ⟨fun _ => hW4, ?_⟩
    clear hK K
    try simp only [Act.put, List.setIfInBounds_toArray, List.set_cons_zero, List.set_cons_succ]
    apply relI_act hF rfl
    intro K hK
    go_simp
    refine hK _ _ ⟨fun h => (by cases h), ?_⟩
    clear hK K
    try simp only [Act.put, List.setIfInBounds_toArray, List.set_cons_zero, List.set_cons_succ]
    apply relI_nil
    simp only [Exit.then, Exit.inBlock]
    have hbx4 := HBX.out.below hW4 (by have := HSZ.out; have := HS1.out; have := HS2.out; have := HLT.out; omega)
    have hac4 := HAC.out.below hW4 HAC.out.lt
    have hbb4 := HBB.out.below hW4 hBl
    have a0 := hbx4.acc.cell 0 _ rfl
    have a1 := hbx4.acc.cell 1 _ rfl
    have a2 := hbx4.acc.cell 2 _ rfl
    have a3 := hbx4.acc.cell 3 _ rfl
    have a4 := hbx4.acc.cell 4 _ rfl
    have af := fun j => hbx4.acc.frozen j
    have r0 := hbx4.err.cell 0 _ rfl
    have rf := hbx4.err.frozen 0
    have i2 := hac4.cell 2 _ rfl
    have if2 := hac4.frozen 2
    have HW4 := Lib.hid hW4
    have HBX4 := Lib.hid hbx4
    have HAC4 := Lib.hid hac4
    have HBB4 := Lib.hid hbb4
    clear hW4 hW3 hb3 hb4 hbx4 hac4 hbb4 p0 p3 HBX HAC HBB
    by_cases hc0 : cc.2 = 0
    · have e1 : (cc.2 != 0) = false := by simp [hc0]
      have hall := HALL.out
      rw [if_pos hc0] at hall
      obtain ⟨ii, hi, hall⟩ := Option.bind_eq_some_iff.1 hall
      have HI := Lib.hid hi
      have HL := Lib.hid hall
      have HC0 := Lib.hid hc0
      clear hi hall hc0 HALL
      gi_wp2
      have hC : Kd.C (Kd.int .i64) (W4.alloc (Obj.cells #[Value.int IntKind.i64 a.interest, Value.int IntKind.i64 cc.1] 3)) (some ⟨W4.heap.size, 0, none⟩) 2 [a.interest, cc.1] := C_parts (d := Kd.int .i64) W4 [a.interest, cc.1] [[.int .i64 a.interest], [.int .i64 cc.1]] 3 (by simp) ⟨rfl, rfl, trivial⟩
      refine (CallsIn.inRound lr (callsIn_wide.2 (money_Add.calls k _ 2 [a.interest, cc.1] ii.1 ii.2 _ hC (Nat.le_refl _) HI.out))).mono ?_
      rintro e W5 ⟨rfl, hd5⟩
      have hW5 : Below W4.heap.size W4 W5 := below_step ((Below.refl _ W4).alloc (Nat.le_refl _) _) hd5.below
      have hbx5 := HBX4.out.below hW5 HBX4.out.size
      have hac5 := HAC4.out.below hW5 HAC4.out.lt
      have hbb5 := HBB4.out.below hW5 HBB4.out.lt
      have b2 := hac5.cell 2 _ rfl
      have bf := fun j => hac5.frozen j
      have HW5 := Lib.hid (HW4.out.trans (Below.mono hW5 HW4.out.size))
      have HBX5 := Lib.hid hbx5
      have HAC5 := Lib.hid hac5
      have HBB5 := Lib.hid hbb5
      clear hd5 hW5 hbx5 hac5 hbb5 HBX4 HAC4 HBB4 a0 a1 a2 a3 a4 af r0 rf i2 if2 hC
      have hac6 : Blk (W5.setCell ⟨w1.heap.size, 2, none⟩ (.int .i64 ii.1)) w1.heap.size 26 [.int .i64 a.paid, .int .i64 a.value, .int .i64 ii.1, .int .i64 a.lien, .int .i64 0] := HAC5.out.set 2 _
      have hbx6 : Boxes w (W5.setCell ⟨w1.heap.size, 2, none⟩ (.int .i64 ii.1)) shares := by
        have hz := HSZ.out
        exact ⟨HBX5.out.sh.other (by omega) _ _, HBX5.out.acc.other (by omega) _ _, HBX5.out.err.other (by omega) _ _, HBX5.out.low.setCell (p := ⟨w1.heap.size, 2, none⟩) (show w.heap.size ≤ w1.heap.size by omega) _⟩
      have hbb6 := HBB5.out.other (show Bx ≠ w1.heap.size by have := HS1.out; have := HS2.out; omega) 2 (.int .i64 ii.1)
      have hk6 : KeepsBut (fun k => w.heap.size ≤ k ∧ k < W1.heap.size) W (W5.setCell ⟨w1.heap.size, 2, none⟩ (.int .i64 ii.1)) := (KeepsBut.of_below HW5.out).trans (KeepsBut.set _ _ _ _ ⟨by have := HSZ.out; omega, by have := HS1.out; omega⟩)
      have HAC6 := Lib.hid hac6
      have HBX6 := Lib.hid hbx6
      have HBB6 := Lib.hid hbb6
      have HK6 := Lib.hid hk6
      by_cases hi0 : ii.2 = 0
      · have e2 : (ii.2 != 0) = false := by simp [hi0]
        clear hac6 hbx6 hbb6 hk6
        gi_wp2
        have hac6 := HAC6.out
        have hbx6 := HBX6.out
        have hbb6 := HBB6.out
        have hk6 := HK6.out
        clear HAC6 HBX6 HBB6 HK6
        generalize W5.setCell ⟨w1.heap.size, 2, none⟩ (.int .i64 ii.1) = W6 at hac6 hbx6 hbb6 hk6 ⊢
        have hne : Bx ≠ w1.heap.size := by have := HS1.out; have := HS2.out; omega
        have hne2 : w.heap.size ≠ w1.heap.size := by have := HSZ.out; omega
        have p0 := fun W' (hW : Held (KeepsBut (fun k => k = w1.heap.size) W6) W') => (hbb6.but hW hne).cell 0 _ rfl
        have p1 := fun W' (hW : Held (KeepsBut (fun k => k = w1.heap.size) W6) W') => (hbb6.but hW hne).cell 1 _ rfl
        have p2 := fun W' (hW : Held (KeepsBut (fun k => k = w1.heap.size) W6) W') => (hbb6.but hW hne).cell 2 _ rfl
        have ps := fun W' (hW : Held (KeepsBut (fun k => k = w1.heap.size) W6) W') => (hbx6.sh.but hW hne2).cell 0 _ rfl
        have g0 := hac6.drew.cell 0 _ rfl
        have gf := fun j => hac6.drew.frozen j
        have g1 := fun v => ((hac6.set 0 v).drew).cell 1 _ rfl
        have gf1 := fun v j => ((hac6.set 0 v).drew).frozen j
        have g2 := fun v v' => (((hac6.set 0 v).set 1 v').drew).cell 3 _ rfl
        have gf2 := fun v v' j => (((hac6.set 0 v).set 1 v').drew).frozen j
        have HAC6 := Lib.hid hac6
        have HBX6 := Lib.hid hbx6
        have HBB6 := Lib.hid hbb6
        have HK6 := Lib.hid hk6
        clear hac6 hbx6 hbb6 hk6 hne hne2 b2 bf
        refine wpIn_region_auto (KeepsBut (fun k => k = w1.heap.size) W6) ((0, none, none) :: (0, none, none) :: (0, none, none) :: (0, none, none) :: (0, none, none) :: (0, none, none) :: (0, none, none) :: (0, none, none) :: (0, none, none) :: (0, none, some true) :: (0, none, none) :: (0, none, some true) :: (0, none, none) :: (0, none, some false) :: []) hF (by kernel_rfl) (by kernel_rfl) (fun _ _ d _ _ h => by cases d <;> exact h) (KeepsBut.drew _) ?_
        repeat' (first
          | (with_reducible apply relI_pass
             focus (intro W hW; first | (go_simp; exact rfl) | go_simp)
             simp only [Act.put, List.setIfInBounds_toArray, List.set_cons_zero, List.set_cons_succ])
          | (with_reducible apply relI_yes
             focus (exact rfl))
          | (with_reducible apply relI_no
             focus (exact rfl)
             simp only [Act.put, List.setIfInBounds_toArray, List.set_cons_zero, List.set_cons_succ])
          | (with_reducible apply relI_askF
             focus (exact rfl)
             all_goals (intro hb; simp only [hb, Act.put, List.setIfInBounds_toArray, List.set_cons_zero, List.set_cons_succ]))
          | (with_reducible apply relI_askT
             focus (exact rfl)
             all_goals (intro hb; simp only [hb, Act.put, List.setIfInBounds_toArray, List.set_cons_zero, List.set_cons_succ]))
          | (with_reducible apply relI_front1)
          | (with_reducible apply relI_front2)
          | (with_reducible apply relI_front3)
          | (with_reducible apply relI_front4)
          | (with_reducible apply relI_front5)
          | (with_reducible apply relI_front6))
        apply relI_act hF rfl
        intro K hK
        go_simp
        refine hK _ _ ⟨fun _ => (KeepsBut.set (T := fun k => k = w1.heap.size) W6 w1.heap.size _ _ rfl).trans (KeepsBut.drew _), ?_⟩
        clear hK K
        try simp only [Act.put, List.setIfInBounds_toArray, List.set_cons_zero, List.set_cons_succ]
        repeat' (first
          | (with_reducible apply relI_pass
             focus (intro W hW; first | (go_simp; exact rfl) | go_simp)
             simp only [Act.put, List.setIfInBounds_toArray, List.set_cons_zero, List.set_cons_succ])
          | (with_reducible apply relI_yes
             focus (exact rfl))
          | (with_reducible apply relI_no
             focus (exact rfl)
             simp only [Act.put, List.setIfInBounds_toArray, List.set_cons_zero, List.set_cons_succ])
          | (with_reducible apply relI_askF
             focus (exact rfl)
             all_goals (intro hb; simp only [hb, Act.put, List.setIfInBounds_toArray, List.set_cons_zero, List.set_cons_succ]))
          | (with_reducible apply relI_askT
             focus (exact rfl)
             all_goals (intro hb; simp only [hb, Act.put, List.setIfInBounds_toArray, List.set_cons_zero, List.set_cons_succ]))
          | (with_reducible apply relI_front1)
          | (with_reducible apply relI_front2)
          | (with_reducible apply relI_front3)
          | (with_reducible apply relI_front4)
          | (with_reducible apply relI_front5)
          | (with_reducible apply relI_front6))
        apply relI_act hF rfl
        intro K hK
        go_simp
        refine hK _ _ ⟨fun _ => ((KeepsBut.set (T := fun k => k = w1.heap.size) W6 w1.heap.size _ _ rfl).trans (KeepsBut.set (T := fun k => k = w1.heap.size) _ w1.heap.size _ _ rfl)).trans (KeepsBut.drew _), ?_⟩
        clear hK K
        try simp only [Act.put, List.setIfInBounds_toArray, List.set_cons_zero, List.set_cons_succ]
        repeat' (first
          | (with_reducible apply relI_pass
             focus (intro W hW; first | (go_simp; exact rfl) | go_simp)
             simp only [Act.put, List.setIfInBounds_toArray, List.set_cons_zero, List.set_cons_succ])
          | (with_reducible apply relI_yes
             focus (exact rfl))
          | (with_reducible apply relI_no
             focus (exact rfl)
             simp only [Act.put, List.setIfInBounds_toArray, List.set_cons_zero, List.set_cons_succ])
          | (with_reducible apply relI_askF
             focus (exact rfl)
             all_goals (intro hb; simp only [hb, Act.put, List.setIfInBounds_toArray, List.set_cons_zero, List.set_cons_succ]))
          | (with_reducible apply relI_askT
             focus (exact rfl)
             all_goals (intro hb; simp only [hb, Act.put, List.setIfInBounds_toArray, List.set_cons_zero, List.set_cons_succ]))
          | (with_reducible apply relI_front1)
          | (with_reducible apply relI_front2)
          | (with_reducible apply relI_front3)
          | (with_reducible apply relI_front4)
          | (with_reducible apply relI_front5)
          | (with_reducible apply relI_front6))
        apply relI_act hF rfl
        intro K hK
        go_simp
        refine hK _ _ ⟨fun h => (by cases h), ?_⟩
        clear hK K
        try simp only [Act.put, List.setIfInBounds_toArray, List.set_cons_zero, List.set_cons_succ]
        apply relI_nil
        simp only [Exit.then, Exit.inBlock]
        rw [IntWalk.i64_left]
        gi_wp2
        have hz := HSZ.out
        have hz1 := HS1.out
        exact ⟨HK6.out.trans ((((KeepsBut.set W6 _ _ _ ⟨by omega, by omega⟩).trans (KeepsBut.set _ _ _ _ ⟨by omega, by omega⟩)).trans (KeepsBut.set _ _ _ _ ⟨by omega, by omega⟩)).trans (KeepsBut.drew _)),
          ⟨x.2.paid, wrap64 (shares * x.2.price), ii.1, x.2.lien⟩, fun r => hstx.out r ii cc HC0.out ⟨q, HQ.out, HCC.out⟩ HI.out hi0,
          ⟨((HBX6.out.sh.other (by omega) _ _).other (by omega) _ _).other (by omega) _ _, ((HBX6.out.acc.other (by omega) _ _).other (by omega) _ _).other (by omega) _ _, ((HBX6.out.err.other (by omega) _ _).other (by omega) _ _).other (by omega) _ _,
            (((HBX6.out.low.setCell (p := ⟨w1.heap.size, 0, none⟩) (show w.heap.size ≤ w1.heap.size by omega) _).setCell (p := ⟨w1.heap.size, 1, none⟩) (show w.heap.size ≤ w1.heap.size by omega) _).setCell (p := ⟨w1.heap.size, 3, none⟩) (show w.heap.size ≤ w1.heap.size by omega) _).drew⟩,
          ((HAC6.out.set 0 _).set 1 _).set 3 _⟩
      · have e2 : (ii.2 != 0) = true := by simp [hi0]
        have hno : o = none := by
          have h := HL.out
          rw [if_neg hi0] at h
          exact (Option.some.inj h).symm
        have a0 := hbx6.acc.cell 0 _ rfl
        have a1 := hbx6.acc.cell 1 _ rfl
        have a2 := hbx6.acc.cell 2 _ rfl
        have a3 := hbx6.acc.cell 3 _ rfl
        have a4 := hbx6.acc.cell 4 _ rfl
        have af := fun j => hbx6.acc.frozen j
        have r0 := hbx6.err.cell 0 _ rfl
        have rf := hbx6.err.frozen 0
        clear hi0 hac6 hbx6 hbb6 hk6
        gi_wp2
        exact ⟨HK6.out.trans ((outW_but _ w.heap.size 0 0 0 0 0 3).imp (fun k h => by have := HSZ.out; have := HS1.out; omega)), ⟨rfl, hno⟩, outW_acc 0 0 0 0 0 3 rfl HBX6.out.acc, outW_err 0 0 0 0 0 3 HBX6.out.err, outW_low 0 0 0 0 0 3 HBX6.out.low⟩
    · have e1 : (cc.2 != 0) = true := by simp [hc0]
      have hno : o = none := by
        have h := HALL.out
        rw [if_neg hc0] at h
        exact (Option.some.inj h).symm
      clear hc0
      gi_wp2
      exact ⟨(KeepsBut.of_below (T := fun k => w.heap.size ≤ k ∧ k < W1.heap.size) HW4.out).trans ((outW_but W4 w.heap.size 0 0 0 0 0 3).imp (fun k h => by have := HSZ.out; have := HS1.out; omega)), ⟨rfl, hno⟩, outW_acc 0 0 0 0 0 3 rfl HBX4.out.acc, outW_err 0 0 0 0 0 3 HBX4.out.err, outW_low 0 0 0 0 0 3 HBX4.out.low⟩
  case done =>
    rintro xs W rfl ⟨a, hst, hbx, hac⟩ hD
    have ho : o = some a := by
      have h := HO.out
      have h2 := hst.out []
      rw [List.append_nil] at h2
      rw [h2] at h
      exact (Option.some.inj h).symm
    subst ho
    have c0 := hac.cell 0 _ rfl
    have c1 := hac.cell 1 _ rfl
    have c2 := hac.cell 2 _ rfl
    have c3 := hac.cell 3 _ rfl
    have c4 := hac.cell 4 _ rfl
    have cf := fun j => hac.frozen j
    have HBX7 := Lib.hid hbx
    have HAC7 := Lib.hid hac
    have HD7 := Lib.hid hD
    clear hbx hac hD hst hs1 hs2 hsz
    go_wp2_with fail
    rw [show max 0 (wrap64 (wrap64 (min a.paid a.value + a.interest) - a.lien)) = dueV a from rfl]
    have hz := HSZ.out
    have hz1 := HS1.out
    have hz2 := HS2.out
    have hbx7 : Boxes w (W.setCell ⟨w1.heap.size, 4, none⟩ (.int .i64 (dueV a))) shares :=
      ⟨HBX7.out.sh.other (by omega) _ _, HBX7.out.acc.other (by omega) _ _, HBX7.out.err.other (by omega) _ _, HBX7.out.low.setCell (p := ⟨w1.heap.size, 4, none⟩) (show w.heap.size ≤ w1.heap.size by omega) _⟩
    have hac7 : Blk (W.setCell ⟨w1.heap.size, 4, none⟩ (.int .i64 (dueV a))) w1.heap.size 26 [.int .i64 a.paid, .int .i64 a.value, .int .i64 a.interest, .int .i64 a.lien, .int .i64 (dueV a)] := HAC7.out.set 4 _
    have hD7 : (W.setCell ⟨w1.heap.size, 4, none⟩ (.int .i64 (dueV a))).heap[w2.heap.size]? = some (.deferred (some [])) := (Below.heap_setCell W ⟨w1.heap.size, 4, none⟩ _ _ (by simp; omega)).trans HD7.out
    clear c0 c1 c2 c3 c4 cf HBX7 HAC7 HD7 hz hz1 hz2
    generalize W.setCell ⟨w1.heap.size, 4, none⟩ (.int .i64 (dueV a)) = W7 at hbx7 hac7 hD7 ⊢
    have hlD : w2.heap.size < W7.heap.size := (Array.getElem?_eq_some_iff.1 hD7).1
    refine (valid_calls (dueV a) W7 (TabOk.below HT.out hbx7.low)).mono ?_
    rintro e W8 ⟨rfl, hb8⟩
    have hbx8 := hbx7.below hb8 hbx7.size
    have hac8 := hac7.below hb8 hac7.lt
    have hD8 := (hb8.block _ hlD).trans hD7
    have c0 := hac8.cell 0 _ rfl
    have c1 := hac8.cell 1 _ rfl
    have c2 := hac8.cell 2 _ rfl
    have c3 := hac8.cell 3 _ rfl
    have c4 := hac8.cell 4 _ rfl
    have a0 := hbx8.acc.cell 0 _ rfl
    have a1 := hbx8.acc.cell 1 _ rfl
    have a2 := hbx8.acc.cell 2 _ rfl
    have a3 := hbx8.acc.cell 3 _ rfl
    have a4 := hbx8.acc.cell 4 _ rfl
    have af := fun j => hbx8.acc.frozen j
    have r0 := hbx8.err.cell 0 _ rfl
    have rf := hbx8.err.frozen 0
    have HBX8 := Lib.hid hbx8
    have HD8 := Lib.hid hD8
    clear hb8 hbx8 hac8 hD8 hbx7 hac7 hD7 hlD
    cases hd : amtB (dueV a) with
    | false =>
      have hend : Hid (endV (some a) = (0, 0, 0, 0, 0, 3)) := by unfold Hid; simp [endV, hd]
      clear hd
      go_wp2_with fail
      exact state_outM HBX8.out HD8.out (by have := HS2.out; have := HS1.out; have := HSZ.out; omega) 0 0 0 0 0 3 rfl rfl rfl (fun W' h => ⟨⟨_, rfl, by rw [hend.out]⟩, h⟩)
    | true =>
      have hend : Hid (endV (some a) = (a.paid, a.value, a.interest, a.lien, dueV a, 0)) := by unfold Hid; simp [endV, hd]
      clear hd
      go_wp2_with fail
      exact state_outM HBX8.out HD8.out (by have := HS2.out; have := HS1.out; have := HSZ.out; omega) _ _ _ _ _ 0 rfl rfl rfl (fun W' h => ⟨⟨_, rfl, by rw [hend.out]⟩, h⟩)
  case stop =>
    rintro cc pre W hpre ⟨⟨rfl, hno⟩, h1, h2, h3⟩ hD
    clear hs1 hs2 hsz
    refine wpIn_wide.2 ?_
    go_wp2_with fail
    exact state_endM h1 h2 h3 hD (by have := HS2.out; have := HS1.out; have := HSZ.out; omega) rfl rfl rfl (fun W' h => ⟨⟨_, rfl, by rw [hno]; rfl⟩, h⟩)
theorem capital_State.calls (k : Nat) (a0 : Int) (A1 : Option Addr) (c1 : Nat) (l1 : List (S36)) (a2 : Int) (r1 : Int) (r2 : Int) (r3 : Int) (r4 : Int) (r5 : Int) (r6 : Int) (w : World) (hr1 : Kd.C k36 w A1 l1.length l1) (hc1 : l1.length ≤ c1) (hT : TabOk w) (h : capital_State.f k a0 l1 a2 = some (r1, r2, r3, r4, r5, r6)) :
    Calls Tryd.prog 12 #[.int .i64 a0, .slice A1 l1.length c1, .int .i64 a2] w fun e w' => e = .returned (.tuple #[.agg #[.int .i64 r1, .int .i64 r2, .int .i64 r3, .int .i64 r4, .int .i64 r5], .int .i64 r6]) ∧ Below w.heap.size w w' := by
  unfold capital_State.f at h
  cases hb : badB a0 a2 l1 with
  | true =>
    rw [if_pos hb] at h
    have h := Option.some.inj h
    simp only [Prod.mk.injEq] at h
    obtain ⟨rfl, rfl, rfl, rfl, rfl, rfl⟩ := h
    exact State_bad A1 c1 l1 a0 a2 w hr1 hc1 hT hb
  | false =>
    rw [if_neg (by simp [hb])] at h
    obtain ⟨o, ho, he⟩ := Option.map_eq_some_iff.1 h
    refine (State_good k A1 c1 l1 a0 a2 w hr1 hc1 hT hb o ho).mono ?_
    rintro e w' ⟨⟨r, rfl, rfl⟩, hb⟩
    rw [he]
    exact ⟨rfl, hb⟩
end Go.Proofs.YtdhnojfpgpjabaaDoor.P
