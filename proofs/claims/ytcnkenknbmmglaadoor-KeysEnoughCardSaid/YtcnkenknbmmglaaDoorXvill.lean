/- The village of chapter 20's laws: four households and their keys. -/
import Derived.Test.YtcnkenknbmmglaaDoorPh20
import Derived.Test.YtcnkenknbmmglaaDoorXins
import Derived.Test.YtcnkenknbmmglaaDoorPx17
import Derived.Test.YtcnkenknbmmglaaDoorPx8
set_option linter.unusedSimpArgs false
set_option linter.unusedVariables false
namespace Go.Proofs.YtcnkenknbmmglaaDoor.P
open Go Go.RowKit Go.Proofs.YtcnkenknbmmglaaDoorW.PrintWords Go.Proofs.YtcnkenknbmmglaaDoorW.PrintLast Go.Proofs.YtcnkenknbmmglaaDoorW.PrintMore Go.Proofs.YtcnkenknbmmglaaDoor.Ord

theorem pubf (n : Nat) (h : n < 1073741789) (k : Nat) (hk : 40 ≤ k) : cohousinglaw20_pub.f k (n : Int) = some (pub n : Int) := by
  unfold cohousinglaw20_pub.f
  rw [refPub_f n h k hk, obs]
/-- The key of a household whose secret is made of a number. -/
def homeK (h : Int) (n : Int) : S49 := ⟨h, (pub (sec n) : Int), 0⟩
def villV (n0 n1 n2 n3 : Int) : List S49 := [homeK 1 n0, homeK 2 n1, homeK 3 n2, homeK 4 n3]
def fourI (n0 n1 n2 n3 : Int) (k : Nat) : Int := match k with | 0 => n0 | 1 => n1 | 2 => n2 | _ => n3
theorem vill_get (n0 n1 n2 n3 : Int) (k : Nat) (hk : k < 4) : (villV n0 n1 n2 n3).take (k + 1) = (villV n0 n1 n2 n3).take k ++ [homeK ((k : Int) + 1) (fourI n0 n1 n2 n3 k)] := by
  match k, hk with
  | 0, _ => rfl
  | 1, _ => rfl
  | 2, _ => rfl
  | 3, _ => rfl
set_option maxHeartbeats 4000000 in
set_option maxRecDepth 100000 in
theorem vill_calls (n0 n1 n2 n3 : Int) (w : World) (h0 : (Lit.int .u64 n0).wf = true) (h1 : (Lit.int .u64 n1).wf = true) (h2 : (Lit.int .u64 n2).wf = true) (h3 : (Lit.int .u64 n3).wf = true) :
    Calls Tryd.prog 19 #[.agg #[.int .u64 n0, .int .u64 n1, .int .u64 n2, .int .u64 n3]] w fun e w' => ∃ v, e = .returned v ∧ Kd.R k49 49 w' w.heap.size (fun k => k ≠ w.heap.size) v (villV n0 n1 n2 n3) ∧ Below w.heap.size w w' := by
  have hu := Tryd.underlying22
  have HWF := Lib.hid (show ∀ k, k < 4 → (Lit.int .u64 (fourI n0 n1 n2 n3 k)).wf = true from fun k hk => match k, hk with | 0, _ => h0 | 1, _ => h1 | 2, _ => h2 | 3, _ => h3)
  clear h0 h1 h2 h3
  go_enter Tryd.func19, Tryd.ntmps19
  go_wp2_with fail
  obtain ⟨hx, hs, hb⟩ := Blk.box w 44 [.int .u64 n0, .int .u64 n1, .int .u64 n2, .int .u64 n3]
  rw [show (List.toArray [Value.int .u64 n0, .int .u64 n1, .int .u64 n2, .int .u64 n3]) = #[.int .u64 n0, .int .u64 n1, .int .u64 n2, .int .u64 n3] from rfl] at hx hs hb
  generalize w.alloc (Obj.cells #[.int .u64 n0, .int .u64 n1, .int .u64 n2, .int .u64 n3] 44) = w1 at *
  have HX := Lib.hid hx
  have HS := Lib.hid hs
  have HB := Lib.hid hb
  clear hx hs hb
  go_loopw [3, 4] (fun u i wr => ∃ k : Nat, k ≤ 4 ∧ i = .int .i64 k ∧ Hid (Kd.R k49 49 wr w.heap.size (fun k => k ≠ w.heap.size) u ((villV n0 n1 n2 n3).take k)) ∧ Hid (Below w.heap.size w wr) ∧ Hid (Blk wr w.heap.size 44 [.int .u64 n0, .int .u64 n1, .int .u64 n2, .int .u64 n3])) (fun _ i _ => 4 - (intOf i).toNat)
  case atStart => exact ⟨0, by omega, rfl, Kd.R_nil _ _ _ _ _, HB, HX⟩
  case round =>
    obtain ⟨k, hk, rfl, hR, hB, hX⟩ := hrel
    by_cases hlt : k < 4
    · have hw : IntKind.i64.wrap ((k : Int) + 1) = (k : Int) + 1 := by rw [IntKind.wrap_i64]; omega
      obtain ⟨z, hz⟩ : ∃ z, fourI n0 n1 n2 n3 k = z := ⟨_, rfl⟩
      have hc : wr.cell? ⟨w.heap.size, k, none⟩ = some (.int .u64 z) := hX.out.cell k _ (by rw [← hz]; match k, hlt with | 0, _ => rfl | 1, _ => rfl | 2, _ => rfl | 3, _ => rfl)
      have hwf := HWF.out k hlt
      rw [hz] at hwf
      have HZ := Lib.hid (And.intro hz hwf)
      clear hz hwf
      go_wp2_with fail
      refine (cohousingref08_Secret.calls z (sec z) wr (by rw [refSecretOf_f z HZ.out.2])).mono ?_
      rintro e w2 ⟨rfl, hd⟩
      have HB2 := Lib.hid (hB.out.trans (Below.mono hd.below hB.out.size))
      have HX2 := Lib.hid (hX.out.below hd.below hX.out.lt)
      have HR2 := Lib.hid (Kd.R_below hR.out hd.below)
      clear hd hB hX hR hc
      go_wp2_with fail
      refine (cohousinglaw20_pub.calls 40 (sec z) (pub (sec z)) w2 (pubf (sec z) (sec_lt z).2 40 (by omega))).mono ?_
      rintro e w3 ⟨rfl, hd⟩
      have HB3 := Lib.hid (HB2.out.trans (Below.mono hd.below HB2.out.size))
      have HX3 := Lib.hid (HX2.out.below hd.below HX2.out.lt)
      have HR3 := Lib.hid (Kd.R_below HR2.out hd.below)
      clear hd HB2 HX2 HR2
      obtain ⟨xs, hxs⟩ : ∃ xs, (villV n0 n1 n2 n3).take k = xs := ⟨_, rfl⟩
      have hlen : xs.length ≤ 4 := by rw [← hxs, List.length_take]; omega
      rw [hxs] at HR3
      have HXS := Lib.hid hxs
      clear hxs
      go_wp2_with ((with_reducible refine gate_builtin (b := .append) (xs := #[.tmp 9, .tmp 18]) rfl ?_); at_builtin; refine Kd.R_append k49 (w0 := w) w.heap.size rfl (.tmp 9) (.tmp 18) 22 49 (.agg #[(.int .i64 0), (.int .i64 0), (.int .i64 0)]) 24 rfl hu info_K rfl (by decide) (by omega) _ xs (homeK ((k : Int) + 1) z) [.int .i64 ((k : Int) + 1), .int .i64 (pub (sec z) : Int), .int .i64 0] (fun k => k ≠ w.heap.size) (fun _ => False) rfl rfl ?aP (fun _ hk => hk.elim) ?aF HR3.out HB3.out HB3.out.size ?aL ?_; (case aP => exact k49_mkM _ _ _ (homeK ((k : Int) + 1) z)); (case aF => exact (fun k_ hk => by have := HX3.out.lt; omega)); (case aL => omega); intro v4 w4 ho4 hb4 hg hat; have HO4 := Lib.hid ho4; have HB4 := Lib.hid hb4; have HX4 := Lib.hid (HX3.out.grown hg (Kd.R_away HR3.out (fun _ hk => hk))); clear ho4 hb4 hg hat)
      have HS4 := Lib.hid (show Kd.R k49 49 w4 w.heap.size (fun k => k ≠ w.heap.size) v4 ((villV n0 n1 n2 n3).take (k + 1)) by rw [vill_get n0 n1 n2 n3 k hlt, HXS.out, HZ.out.1]; exact HO4.out)
      go_wp2_with fail
      go_roundw
      case rel => exact ⟨k + 1, by omega, by go_num, HS4, HB4, HX4⟩
      case measure => simp [intOf]; omega
    · obtain rfl : k = 4 := by omega
      go_wp2_with fail
      go_ret
      exact ⟨_, rfl, hR.out, hB.out⟩
end Go.Proofs.YtcnkenknbmmglaaDoor.P
