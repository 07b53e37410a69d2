/- ballot.Encrypt. -/
import Derived.Test.YtkaebblbmoolaaaDoorBk
import Derived.Test.YtkaebblbmoolaaaDoorPx3
set_option linter.unusedSimpArgs false
set_option linter.unusedVariables false
namespace Go.Proofs.YtkaebblbmoolaaaDoor.P
open Go Go.RowKit Go.Proofs.YtkaebblbmoolaaaDoorW.PrintWords Go.Proofs.YtkaebblbmoolaaaDoorW.PrintLast Go.Proofs.YtkaebblbmoolaaaDoorW.PrintMore
theorem idx0 (W : World) : (Instr.index 61 (.agg #[.int .i64 1, .int .i64 4, .int .i64 16]) (.int .i64 0)).run Tryd.prog W = .ok (.int .i64 1) W := by kernel_rfl
theorem idx1 (W : World) : (Instr.index 61 (.agg #[.int .i64 1, .int .i64 4, .int .i64 16]) (.int .i64 1)).run Tryd.prog W = .ok (.int .i64 4) W := by kernel_rfl
theorem idx2 (W : World) : (Instr.index 61 (.agg #[.int .i64 1, .int .i64 4, .int .i64 16]) (.int .i64 2)).run Tryd.prog W = .ok (.int .i64 16) W := by kernel_rfl

def ballot_Encrypt.f (a0 : Int) (a1 : Int) (a2 : Int) : Option (Int × Int × Int) :=
  if a1 = 0 then ballot_Again.f a0 1 1 a2 else if a1 = 1 then ballot_Again.f a0 1 4 a2 else if a1 = 2 then ballot_Again.f a0 1 16 a2 else some (0, 0, 1)
set_option maxRecDepth 100000 in
theorem ballot_Encrypt.calls (a0 : Int) (a1 : Int) (a2 : Int) (r1 : Int) (r2 : Int) (r3 : Int) (w : World) (h : ballot_Encrypt.f a0 a1 a2 = some (r1, r2, r3)) :
    Calls Tryd.prog 10 #[.int .i64 a0, .int .i64 a1, .int .i64 a2] w fun e w' => e = .returned (.tuple #[.agg #[.int .i64 r1, .int .i64 r2], .int .i64 r3]) ∧ Below w.heap.size w w' := by
  unfold ballot_Encrypt.f at h
  by_cases h0 : a1 = 0
  · subst h0
    rw [if_pos rfl] at h
    have C := Lib.hid (fun W => ballot_Again.calls a0 1 1 a2 r1 r2 r3 W h)
    clear h
    have hix := idx0
    go_enter Tryd.func10, Tryd.ntmps10
    go_wp2_with fail
    obtain ⟨hx, hsz, hbw⟩ := Blk.box w 23 [Value.int IntKind.i64 0, Value.int IntKind.i64 0]
    rw [show (List.toArray [Value.int IntKind.i64 0, Value.int IntKind.i64 0]) = #[Value.int IntKind.i64 0, Value.int IntKind.i64 0] from rfl] at hx hsz hbw
    generalize w.alloc (Obj.cells #[Value.int IntKind.i64 0, Value.int IntKind.i64 0] 23) = w1 at hx hsz hbw ⊢
    refine (C.out w1).mono ?_
    rintro e w' ⟨rfl, hb⟩
    have hx' := hx.below hb hx.lt
    have c0 := hx'.cell 0 _ rfl
    have c1 := hx'.cell 1 _ rfl
    have f0 := hx'.frozen 0
    have f1 := hx'.frozen 1
    have HX := Lib.hid hx'
    have HB := Lib.hid (show Below w.heap.size w w' from hbw.trans (Below.mono hb (by omega)))
    clear hb hx hsz hbw hx' C hix
    go_wp2_with fail
    refine bodyPost_ret (results_ct rfl _ _ w.heap.size 23 #[.int .i64 r1, .int .i64 r2] (0, 0) _ rfl ?blk Tryd.underlying23 rfl (by kernel_rfl)) rfl ?_
    case blk => exact (HX.out.set 0 (.int .i64 r1)).set 1 (.int .i64 r2)
    exact ⟨by simp, (HB.out.setCell (Nat.le_refl _) _).setCell (Nat.le_refl _) _⟩
  by_cases h1 : a1 = 1
  · subst h1
    rw [if_neg (by decide), if_pos rfl] at h
    have C := Lib.hid (fun W => ballot_Again.calls a0 1 4 a2 r1 r2 r3 W h)
    clear h
    have hix := idx1
    go_enter Tryd.func10, Tryd.ntmps10
    go_wp2_with fail
    obtain ⟨hx, hsz, hbw⟩ := Blk.box w 23 [Value.int IntKind.i64 0, Value.int IntKind.i64 0]
    rw [show (List.toArray [Value.int IntKind.i64 0, Value.int IntKind.i64 0]) = #[Value.int IntKind.i64 0, Value.int IntKind.i64 0] from rfl] at hx hsz hbw
    generalize w.alloc (Obj.cells #[Value.int IntKind.i64 0, Value.int IntKind.i64 0] 23) = w1 at hx hsz hbw ⊢
    refine (C.out w1).mono ?_
    rintro e w' ⟨rfl, hb⟩
    have hx' := hx.below hb hx.lt
    have c0 := hx'.cell 0 _ rfl
    have c1 := hx'.cell 1 _ rfl
    have f0 := hx'.frozen 0
    have f1 := hx'.frozen 1
    have HX := Lib.hid hx'
    have HB := Lib.hid (show Below w.heap.size w w' from hbw.trans (Below.mono hb (by omega)))
    clear hb hx hsz hbw hx' C hix
    go_wp2_with fail
    refine bodyPost_ret (results_ct rfl _ _ w.heap.size 23 #[.int .i64 r1, .int .i64 r2] (0, 0) _ rfl ?blk Tryd.underlying23 rfl (by kernel_rfl)) rfl ?_
    case blk => exact (HX.out.set 0 (.int .i64 r1)).set 1 (.int .i64 r2)
    exact ⟨by simp, (HB.out.setCell (Nat.le_refl _) _).setCell (Nat.le_refl _) _⟩
  by_cases h2 : a1 = 2
  · subst h2
    rw [if_neg (by decide), if_neg (by decide), if_pos rfl] at h
    have C := Lib.hid (fun W => ballot_Again.calls a0 1 16 a2 r1 r2 r3 W h)
    clear h
    have hix := idx2
    go_enter Tryd.func10, Tryd.ntmps10
    go_wp2_with fail
    obtain ⟨hx, hsz, hbw⟩ := Blk.box w 23 [Value.int IntKind.i64 0, Value.int IntKind.i64 0]
    rw [show (List.toArray [Value.int IntKind.i64 0, Value.int IntKind.i64 0]) = #[Value.int IntKind.i64 0, Value.int IntKind.i64 0] from rfl] at hx hsz hbw
    generalize w.alloc (Obj.cells #[Value.int IntKind.i64 0, Value.int IntKind.i64 0] 23) = w1 at hx hsz hbw ⊢
    refine (C.out w1).mono ?_
    rintro e w' ⟨rfl, hb⟩
    have hx' := hx.below hb hx.lt
    have c0 := hx'.cell 0 _ rfl
    have c1 := hx'.cell 1 _ rfl
    have f0 := hx'.frozen 0
    have f1 := hx'.frozen 1
    have HX := Lib.hid hx'
    have HB := Lib.hid (show Below w.heap.size w w' from hbw.trans (Below.mono hb (by omega)))
    clear hb hx hsz hbw hx' C hix
    go_wp2_with fail
    refine bodyPost_ret (results_ct rfl _ _ w.heap.size 23 #[.int .i64 r1, .int .i64 r2] (0, 0) _ rfl ?blk Tryd.underlying23 rfl (by kernel_rfl)) rfl ?_
    case blk => exact (HX.out.set 0 (.int .i64 r1)).set 1 (.int .i64 r2)
    exact ⟨by simp, (HB.out.setCell (Nat.le_refl _) _).setCell (Nat.le_refl _) _⟩
  rw [if_neg h0, if_neg h1, if_neg h2] at h
  simp only [Option.some.injEq, Prod.mk.injEq] at h
  obtain ⟨rfl, rfl, rfl⟩ := h
  by_cases h3 : a1 < 0
  · have d1 : decide (a1 < 0) = true := decide_eq_true h3
    clear h0 h1 h2 h3
    go_enter Tryd.func10, Tryd.ntmps10
    go_wp2_with fail
    obtain ⟨hx, hsz, hbw⟩ := Blk.box w 23 [Value.int IntKind.i64 0, Value.int IntKind.i64 0]
    rw [show (List.toArray [Value.int IntKind.i64 0, Value.int IntKind.i64 0]) = #[Value.int IntKind.i64 0, Value.int IntKind.i64 0] from rfl] at hx hsz hbw
    refine bodyPost_ret (results_ct rfl _ _ w.heap.size 23 #[.int .i64 0, .int .i64 0] (0, 0) _ rfl ?blk Tryd.underlying23 rfl (by kernel_rfl)) rfl ?_
    case blk => exact hx
    exact ⟨by simp, hbw⟩
  · have d1 : decide (a1 < 0) = false := decide_eq_false h3
    have d2 : decide (2 < a1) = true := decide_eq_true (by omega)
    clear h0 h1 h2 h3
    go_enter Tryd.func10, Tryd.ntmps10
    go_wp2_with fail
    obtain ⟨hx, hsz, hbw⟩ := Blk.box w 23 [Value.int IntKind.i64 0, Value.int IntKind.i64 0]
    rw [show (List.toArray [Value.int IntKind.i64 0, Value.int IntKind.i64 0]) = #[Value.int IntKind.i64 0, Value.int IntKind.i64 0] from rfl] at hx hsz hbw
    refine bodyPost_ret (results_ct rfl _ _ w.heap.size 23 #[.int .i64 0, .int .i64 0] (0, 0) _ rfl ?blk Tryd.underlying23 rfl (by kernel_rfl)) rfl ?_
    case blk => exact hx
    exact ⟨by simp, hbw⟩
end Go.Proofs.YtkaebblbmoolaaaDoor.P
