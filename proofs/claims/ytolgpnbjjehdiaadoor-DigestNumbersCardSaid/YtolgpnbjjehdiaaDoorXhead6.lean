/- cohousinglaw06.head: the examples of the chapter answer true. -/
import Derived.Test.YtolgpnbjjehdiaaDoorXup
import Derived.Test.YtolgpnbjjehdiaaDoorPx1
import Derived.Test.YtolgpnbjjehdiaaDoorPx2
import Derived.Test.YtolgpnbjjehdiaaDoorXcheck
import Derived.Test.YtolgpnbjjehdiaaDoorPx2
import Derived.Test.YtolgpnbjjehdiaaDoorPx2
import Derived.KernelRfl
set_option linter.unusedSimpArgs false
set_option linter.unusedVariables false
namespace Go.Proofs.YtolgpnbjjehdiaaDoor.P
open Go Go.RowKit Go.Proofs.YtolgpnbjjehdiaaDoorW.PrintWords Go.Proofs.YtolgpnbjjehdiaaDoorW.PrintLast Go.Proofs.YtolgpnbjjehdiaaDoorW.PrintMore
theorem n0 : digest_Sum.f 40 [] = some 14695981039346656037 := by kernel_rfl
theorem n1 : Y.digest_Sum.f 40 [97] = some 12638187200555641996 := by kernel_rfl
theorem n2 : Y.digest_Sum.f 40 [102, 111, 111, 98, 97, 114] = some 9625390261332436968 := by kernel_rfl
theorem q11 : digest_Root.f 40 [5, 6, 7] = some (11698322895628160512, 0) := by kernel_rfl
theorem q12 : digest_Path.f 40 [5, 6, 7] 2 = some ([4292922222832195493], 0) := by kernel_rfl
theorem q13 : cohousinglaw06_bytes.f 40 0 [5] = some [0, 0, 0, 0, 0, 0, 0, 0, 5] := by kernel_rfl
theorem q14 : digest_Sum.f 40 [0, 0, 0, 0, 0, 0, 0, 0, 5] = some 16574510217305268544 := by kernel_rfl
theorem q15 : cohousinglaw06_bytes.f 40 0 [6] = some [0, 0, 0, 0, 0, 0, 0, 0, 6] := by kernel_rfl
theorem q16 : digest_Sum.f 40 [0, 0, 0, 0, 0, 0, 0, 0, 6] = some 16574513515840153177 := by kernel_rfl
theorem q17 : cohousinglaw06_bytes.f 40 0 [7] = some [0, 0, 0, 0, 0, 0, 0, 0, 7] := by kernel_rfl
theorem q18 : digest_Sum.f 40 [0, 0, 0, 0, 0, 0, 0, 0, 7] = some 16574512416328524966 := by kernel_rfl
theorem q19 : cohousinglaw06_bytes.f 40 1 [16574510217305268544, 16574513515840153177] = some [1, 230, 4, 125, 58, 36, 144, 33, 64, 230, 4, 128, 58, 36, 144, 38, 89] := by kernel_rfl
theorem q20 : digest_Sum.f 40 [1, 230, 4, 125, 58, 36, 144, 33, 64, 230, 4, 128, 58, 36, 144, 38, 89] = some 4292922222832195493 := by kernel_rfl
theorem q21 : digest_Root.f 40 [] = some (0, 1) := by kernel_rfl
theorem q22 : digest_Path.f 40 [5, 6, 7] 3 = some ([], 1) := by kernel_rfl
theorem q23 : cohousinglaw06_bytes.f 40 1 [4292922222832195493, 16574512416328524966] = some [1, 59, 147, 134, 4, 76, 75, 23, 165, 230, 4, 127, 58, 36, 144, 36, 166] := by kernel_rfl
theorem q24 : digest_Sum.f 40 [1, 59, 147, 134, 4, 76, 75, 23, 165, 230, 4, 127, 58, 36, 144, 36, 166] = some 11698322895628160512 := by kernel_rfl
theorem q25 : cohousingref06_Same.f 40 [4292922222832195493] [4292922222832195493] = some true := by kernel_rfl
theorem q26 : digest_Check.f 40 11698322895628160512 7 2 3 [4292922222832195493] = some true := by kernel_rfl
/-- The world behind '[]byte("..")': the literal's block, its end marked. -/
def frz (W : World) (cs : List Value) : World := (W.alloc (.cells cs.toArray 5)).freeze ⟨W.heap.size, cs.length, none⟩ 1
theorem frz_run (W : World) (cs : List Value) (n c : Nat) : (convert 22 22 (.slice (some ⟨W.heap.size, 0, none⟩) n c)).run Tryd.prog (W.alloc (.cells cs.toArray 5)) = .ok (.slice (some ⟨W.heap.size, 0, none⟩) n c) (frz W cs) := by
  have hsh : (W.alloc (.cells cs.toArray 5)).shape? W.heap.size = some (5, cs.length) := by
    simp [World.shape?, World.alloc, -World.alloc_eq]
  simp [convert, run_underlying Tryd.underlying22, run_underlying Tryd.underlying5, markStringish, frz, hsh, Result.andThen]
theorem frz_blk (W : World) (cs : List Value) : (frz W cs).heap[W.heap.size]? = some (.cells cs.toArray 5 (cs.length, cs.length + 1)) := by
  simp [frz, World.freeze, World.alloc, -World.alloc_eq]
  rw [Array.getElem_modify_self]
  simp
theorem frz_below {w W : World} (h : Below w.heap.size w W) (cs : List Value) : Below w.heap.size w (frz W cs) := by
  refine below_step h ⟨rfl, rfl, rfl, by simp [frz, World.freeze, World.alloc, -World.alloc_eq], fun j hj => ?_⟩
  have h1 : W.heap.size ≠ j := by omega
  simp [frz, World.freeze, World.alloc, -World.alloc_eq, Array.getElem?_modify, Array.getElem?_push, h1, Ne.symm h1]
/-- Numbers of a kind, one after the other in a block. -/
theorem lit_parts (k : IntKind) (W : World) : ∀ l : List Int, Parts ((Kd.int k).K W) l (l.map fun x => [Value.int k x])
  | [] => trivial
  | x :: l => ⟨rfl, lit_parts k W l⟩
theorem C_lit (k : IntKind) (W : World) (l : List Int) (t : TypeId) (hl : l.length ≤ 1000000) : Kd.C (Kd.int k) (W.alloc (.cells (l.map (Value.int k)).toArray t)) (some ⟨W.heap.size, 0, none⟩) l.length l := by
  have h := C_parts (d := Kd.int k) W l (l.map fun x => [Value.int k x]) t (by omega) (lit_parts k W l)
  have e : ∀ l : List Int, (l.map fun x => [Value.int k x]).flatten = l.map (Value.int k) := fun l => by
    induction l with
    | nil => rfl
    | cons x l ih => simp only [List.map_cons, List.flatten_cons, ih]; rfl
  rwa [e] at h
theorem n3 : digest_Ints.f [12, -3] = some 11494595827349723658 := by kernel_rfl
theorem n4 : Y.digest_Sum.f 40 [49, 50, 32, 45, 51, 32] = some 11494595827349723658 := by kernel_rfl
set_option maxRecDepth 100000 in
set_option maxHeartbeats 1000000 in
theorem head_calls (w : World) (hT : TabOk w) :
    Calls Tryd.prog 10 #[] w fun e w' => e = .returned (.bool true) ∧ Below w.heap.size w w' := by
  have HT := Lib.hid hT
  clear hT
  have hcvh1 : ∀ W : World, (convert 22 22 (.slice (some ⟨W.heap.size, 0, none⟩) 1 1)).run Tryd.prog (W.alloc (.cells #[.int .u8 97] 5)) = .ok (.slice (some ⟨W.heap.size, 0, none⟩) 1 1) (frz W [.int .u8 97]) := fun W => frz_run W [.int .u8 97] _ _
  have hcvh2 : ∀ W : World, (convert 22 22 (.slice (some ⟨W.heap.size, 0, none⟩) 6 6)).run Tryd.prog (W.alloc (.cells #[.int .u8 102, .int .u8 111, .int .u8 111, .int .u8 98, .int .u8 97, .int .u8 114] 5)) = .ok (.slice (some ⟨W.heap.size, 0, none⟩) 6 6) (frz W [.int .u8 102, .int .u8 111, .int .u8 111, .int .u8 98, .int .u8 97, .int .u8 114]) := fun W => frz_run W [.int .u8 102, .int .u8 111, .int .u8 111, .int .u8 98, .int .u8 97, .int .u8 114] _ _
  have hcvh3 : ∀ W : World, (convert 22 22 (.slice (some ⟨W.heap.size, 0, none⟩) 6 6)).run Tryd.prog (W.alloc (.cells #[.int .u8 49, .int .u8 50, .int .u8 32, .int .u8 45, .int .u8 51, .int .u8 32] 5)) = .ok (.slice (some ⟨W.heap.size, 0, none⟩) 6 6) (frz W [.int .u8 49, .int .u8 50, .int .u8 32, .int .u8 45, .int .u8 51, .int .u8 32]) := fun W => frz_run W [.int .u8 49, .int .u8 50, .int .u8 32, .int .u8 45, .int .u8 51, .int .u8 32] _ _
  go_enter Tryd.func10, Tryd.ntmps10
  go_wp2_with fail
  refine (digest_Sum.calls 40 none 0 [] _ _ (Kd.C_nil _ _) (Nat.le_refl _) n0).mono ?_
  rintro e w1 ⟨rfl, hd⟩
  have HB := Lib.hid hd.below
  clear hd
  go_wp2_with fail
  refine (digest_sumC (n := 1) (frz_blk w1 _) (l := [97]) rfl (by decide) rfl n1).mono ?_
  rintro e w2 ⟨rfl, hd⟩
  replace HB := Lib.hid (below_step (frz_below HB.out _) hd.below)
  clear hd
  go_wp2_with fail
  refine (digest_sumC (n := 6) (frz_blk w2 _) (l := [102, 111, 111, 98, 97, 114]) rfl (by decide) rfl n2).mono ?_
  rintro e w3 ⟨rfl, hd⟩
  replace HB := Lib.hid (below_step (frz_below HB.out _) hd.below)
  clear hd
  go_wp2_with fail
  refine (digest_Ints.calls _ _ [12, -3] _ _ (C_lit .i64 w3 [12, -3] 3 (by decide)) (Nat.le_refl _) (TabOk.below HT.out (below_alloc HB.out _)) n3).mono ?_
  rintro e w4 ⟨rfl, hd⟩
  replace HB := Lib.hid (below_step (below_alloc HB.out _) hd)
  clear hd
  go_wp2_with fail
  refine (digest_sumC (n := 6) (frz_blk w4 _) (l := [49, 50, 32, 45, 51, 32]) rfl (by decide) rfl n4).mono ?_
  rintro e w5 ⟨rfl, hd⟩
  replace HB := Lib.hid (below_step (frz_below HB.out _) hd.below)
  clear hd
  go_wp2_with fail
  clear hcvh1 hcvh2 hcvh3
  have HL := Lib.hid (C_lit .u64 w5 [5, 6, 7] 25 (by decide))
  replace HB := Lib.hid (below_alloc HB.out (.cells #[.int .u64 5, .int .u64 6, .int .u64 7] 25))
  refine (digest_Root.calls 40 _ _ [5, 6, 7] _ _ _ HL.out (Nat.le_refl _) q11).mono ?_
  rintro e w6 ⟨rfl, hb⟩
  replace HL := Lib.hid (Kd.C_below HL.out hb)
  replace HB := Lib.hid (below_step HB.out hb)
  clear hb
  go_wp2_with fail
  refine (digest_Path.calls 40 _ _ [5, 6, 7] 2 _ _ _ HL.out (Nat.le_refl _) q12).mono ?_
  rintro e w7 ⟨vp, rfl, hR, hb⟩
  replace HL := Lib.hid (Kd.C_below HL.out hb)
  replace HB := Lib.hid (below_step HB.out hb)
  have HP := Lib.hid hR
  clear hb hR
  go_wp2_with fail
  refine (cohousinglaw06_bytes.calls 40 0 _ _ [5] _ _ (C_lit .u64 w7 [5] 25 (by decide)) (Nat.le_refl _) q13).mono ?_
  rintro e w8 ⟨vb, rfl, hR, hb0⟩
  have hb := below_step (below_alloc (Below.refl w7.heap.size w7) _) hb0
  replace HL := Lib.hid (Kd.C_below HL.out hb)
  replace HP := Lib.hid (Kd.R_below HP.out hb)
  replace HB := Lib.hid (below_step HB.out hb)
  obtain ⟨B, cB, rfl, hle, hC⟩ := Kd.R_reads hR
  have HCB := Lib.hid hC
  clear hb hb0 hR hC
  go_wp2_with fail
  refine (digest_Sum.calls 40 _ _ [0, 0, 0, 0, 0, 0, 0, 0, 5] _ _ HCB.out hle q14).mono ?_
  rintro e w9 ⟨rfl, hd⟩
  have hb := hd.below
  replace HL := Lib.hid (Kd.C_below HL.out hb)
  replace HP := Lib.hid (Kd.R_below HP.out hb)
  replace HB := Lib.hid (below_step HB.out hb)
  clear hb hd HCB hle
  go_wp2_with fail
  refine (cohousinglaw06_bytes.calls 40 0 _ _ [6] _ _ (C_lit .u64 w9 [6] 25 (by decide)) (Nat.le_refl _) q15).mono ?_
  rintro e w10 ⟨vb, rfl, hR, hb0⟩
  have hb := below_step (below_alloc (Below.refl w9.heap.size w9) _) hb0
  replace HL := Lib.hid (Kd.C_below HL.out hb)
  replace HP := Lib.hid (Kd.R_below HP.out hb)
  replace HB := Lib.hid (below_step HB.out hb)
  obtain ⟨B, cB, rfl, hle, hC⟩ := Kd.R_reads hR
  have HCB := Lib.hid hC
  clear hb hb0 hR hC
  go_wp2_with fail
  refine (digest_Sum.calls 40 _ _ [0, 0, 0, 0, 0, 0, 0, 0, 6] _ _ HCB.out hle q16).mono ?_
  rintro e w11 ⟨rfl, hd⟩
  have hb := hd.below
  replace HL := Lib.hid (Kd.C_below HL.out hb)
  replace HP := Lib.hid (Kd.R_below HP.out hb)
  replace HB := Lib.hid (below_step HB.out hb)
  clear hb hd HCB hle
  go_wp2_with fail
  refine (cohousinglaw06_bytes.calls 40 0 _ _ [7] _ _ (C_lit .u64 w11 [7] 25 (by decide)) (Nat.le_refl _) q17).mono ?_
  rintro e w12 ⟨vb, rfl, hR, hb0⟩
  have hb := below_step (below_alloc (Below.refl w11.heap.size w11) _) hb0
  replace HL := Lib.hid (Kd.C_below HL.out hb)
  replace HP := Lib.hid (Kd.R_below HP.out hb)
  replace HB := Lib.hid (below_step HB.out hb)
  obtain ⟨B, cB, rfl, hle, hC⟩ := Kd.R_reads hR
  have HCB := Lib.hid hC
  clear hb hb0 hR hC
  go_wp2_with fail
  refine (digest_Sum.calls 40 _ _ [0, 0, 0, 0, 0, 0, 0, 0, 7] _ _ HCB.out hle q18).mono ?_
  rintro e w13 ⟨rfl, hd⟩
  have hb := hd.below
  replace HL := Lib.hid (Kd.C_below HL.out hb)
  replace HP := Lib.hid (Kd.R_below HP.out hb)
  replace HB := Lib.hid (below_step HB.out hb)
  clear hb hd HCB hle
  go_wp2_with fail
  refine (cohousinglaw06_bytes.calls 40 1 _ _ [16574510217305268544, 16574513515840153177] _ _ (C_lit .u64 w13 [16574510217305268544, 16574513515840153177] 25 (by decide)) (Nat.le_refl _) q19).mono ?_
  rintro e w14 ⟨vb, rfl, hR, hb0⟩
  have hb := below_step (below_alloc (Below.refl w13.heap.size w13) _) hb0
  replace HL := Lib.hid (Kd.C_below HL.out hb)
  replace HP := Lib.hid (Kd.R_below HP.out hb)
  replace HB := Lib.hid (below_step HB.out hb)
  obtain ⟨B, cB, rfl, hle, hC⟩ := Kd.R_reads hR
  have HCB := Lib.hid hC
  clear hb hb0 hR hC
  go_wp2_with fail
  refine (digest_Sum.calls 40 _ _ [1, 230, 4, 125, 58, 36, 144, 33, 64, 230, 4, 128, 58, 36, 144, 38, 89] _ _ HCB.out hle q20).mono ?_
  rintro e w15 ⟨rfl, hd⟩
  have hb := hd.below
  replace HL := Lib.hid (Kd.C_below HL.out hb)
  replace HP := Lib.hid (Kd.R_below HP.out hb)
  replace HB := Lib.hid (below_step HB.out hb)
  clear hb hd HCB hle
  go_wp2_with fail
  refine (digest_Root.calls 40 none 0 [] _ _ _ (Kd.C_nil _ _) (Nat.le_refl _) q21).mono ?_
  rintro e w16 ⟨rfl, hb⟩
  replace HL := Lib.hid (Kd.C_below HL.out hb)
  replace HP := Lib.hid (Kd.R_below HP.out hb)
  replace HB := Lib.hid (below_step HB.out hb)
  clear hb
  go_wp2_with fail
  refine (digest_Path.calls 40 _ _ [5, 6, 7] 3 _ _ _ HL.out (Nat.le_refl _) q22).mono ?_
  rintro e w17 ⟨vq, rfl, hR, hb⟩
  replace HL := Lib.hid (Kd.C_below HL.out hb)
  replace HP := Lib.hid (Kd.R_below HP.out hb)
  replace HB := Lib.hid (below_step HB.out hb)
  clear hb hR
  go_wp2_with fail
  refine (cohousinglaw06_bytes.calls 40 1 _ _ [4292922222832195493, 16574512416328524966] _ _ (C_lit .u64 w17 [4292922222832195493, 16574512416328524966] 25 (by decide)) (Nat.le_refl _) q23).mono ?_
  rintro e w18 ⟨vb, rfl, hR, hb0⟩
  have hb := below_step (below_alloc (Below.refl w17.heap.size w17) _) hb0
  replace HL := Lib.hid (Kd.C_below HL.out hb)
  replace HP := Lib.hid (Kd.R_below HP.out hb)
  replace HB := Lib.hid (below_step HB.out hb)
  obtain ⟨B, cB, rfl, hle, hC⟩ := Kd.R_reads hR
  have HCB := Lib.hid hC
  clear hb hb0 hR hC
  go_wp2_with fail
  refine (digest_Sum.calls 40 _ _ [1, 59, 147, 134, 4, 76, 75, 23, 165, 230, 4, 127, 58, 36, 144, 36, 166] _ _ HCB.out hle q24).mono ?_
  rintro e w19 ⟨rfl, hd⟩
  have hb := hd.below
  replace HL := Lib.hid (Kd.C_below HL.out hb)
  replace HP := Lib.hid (Kd.R_below HP.out hb)
  replace HB := Lib.hid (below_step HB.out hb)
  clear hb hd HCB hle
  go_wp2_with fail
  have hpr := Kd.R_reads HP.out
  obtain ⟨PA, cP, hpe, hpl, hpC⟩ := hpr
  subst hpe
  have HPC := Lib.hid hpC
  clear hpC
  refine (cohousingref06_Same.calls 40 _ _ [4292922222832195493] _ _ [4292922222832195493] _ _ (Kd.C_alloc HPC.out _) hpl (C_lit .u64 w19 [4292922222832195493] 25 (by decide)) (Nat.le_refl _) q25).mono ?_
  rintro e w20 ⟨rfl, hd⟩
  have hb := below_step (below_alloc (Below.refl w19.heap.size w19) _) hd.below
  replace HL := Lib.hid (Kd.C_below HL.out hb)
  replace HP := Lib.hid (Kd.R_below HP.out hb)
  replace HB := Lib.hid (below_step HB.out hb)
  replace HPC := Lib.hid (Kd.C_below HPC.out hb)
  clear hb hd
  go_wp2_with fail
  refine (digest_Check.calls 40 11698322895628160512 7 2 3 _ _ [4292922222832195493] _ _ HPC.out hpl q26).mono ?_
  rintro e w21 ⟨rfl, hb⟩
  replace HB := Lib.hid (below_step HB.out hb)
  clear hb
  go_wp2_with fail
  go_ret
  exact ⟨rfl, HB.out⟩
def cohousinglaw06_head.f : Option (Bool) := some true
theorem cohousinglaw06_head.calls (r : Bool) (w : World) (hT : TabOk w) (h : cohousinglaw06_head.f = some r) :
    Calls Tryd.prog 10 #[] w fun e w' => e = .returned (.bool r) ∧ Below w.heap.size w w' := by
  obtain rfl := Option.some.inj h
  exact head_calls w hT
end Go.Proofs.YtolgpnbjjehdiaaDoor.P
