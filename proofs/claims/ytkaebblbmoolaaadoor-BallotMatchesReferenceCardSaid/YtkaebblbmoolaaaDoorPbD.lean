/- Chapter 40: Encrypt and Again, told over whole numbers; the numbers of the head. -/
import Derived.Test.YtkaebblbmoolaaaDoorPbC
import Derived.Test.YtkaebblbmoolaaaDoorXenc
set_option linter.unusedSimpArgs false
set_option linter.unusedVariables false
namespace Go.Proofs.YtkaebblbmoolaaaDoor.P
open Go Go.RowKit Go.Proofs.YtkaebblbmoolaaaDoorW.PrintWords Go.Proofs.YtkaebblbmoolaaaDoorW.PrintLast Go.Proofs.YtkaebblbmoolaaaDoorW.PrintMore

def againV (k a b r : Int) : Int × Int × Int := if okN k a b r then (nA a r, nB k b r, 0) else (0, 0, 1)
theorem again_f (k a b r : Int) : ballot_Again.f k a b r = some (againV k a b r) := by
  unfold ballot_Again.f
  rw [anew_f]
  simp only [obs]
  unfold anewV againV
  cases h : okN k a b r with
  | false => simp
  | true => simp
def encV (k v r : Int) : Int × Int × Int := if v = 0 then againV k 1 1 r else if v = 1 then againV k 1 4 r else if v = 2 then againV k 1 16 r else (0, 0, 1)
theorem enc_f (k v r : Int) : ballot_Encrypt.f k v r = some (encV k v r) := by
  unfold ballot_Encrypt.f encV
  rw [again_f, again_f, again_f]
  split
  · rfl
  · split
    · rfl
    · split <;> rfl
theorem memB_1 : memB 1 = true := (memB_nat 1).2 ⟨by decide, by unfold Nt.El; rw [Nat.one_pow]; decide⟩
theorem memB_16 : memB 16 = true := by
  have h := memB_mul memB_4 memB_4
  rwa [show (4 * 4 % 2147483579 : Int) = 16 from by decide] at h
theorem memB_64 : memB 64 = true := by
  have h := memB_mul memB_16 memB_4
  rwa [show (16 * 4 % 2147483579 : Int) = 64 from by decide] at h
theorem memB_256 : memB 256 = true := by
  have h := memB_mul memB_64 memB_4
  rwa [show (64 * 4 % 2147483579 : Int) = 256 from by decide] at h
theorem memB_1024 : memB 1024 = true := by
  have h := memB_mul memB_256 memB_4
  rwa [show (256 * 4 % 2147483579 : Int) = 1024 from by decide] at h
theorem keyB_4 : keyB 4 = true := by unfold keyB; rw [memB_4]; rfl
theorem pw0 : pwZ 4 0 = 1 := by decide
theorem pw1 : pwZ 4 1 = 4 := by decide
theorem pw2 : pwZ 4 2 = 16 := by decide
theorem head1 : encV 4 1 2 = (16, 64, 0) := by
  unfold encV againV okN
  rw [keyB_4, memB_1, memB_4]
  simp [expB, nA, nB, pw2]
theorem head2 : againV 4 16 64 1 = (64, 256, 0) := by
  unfold againV okN
  rw [keyB_4, memB_16, memB_64]
  simp [expB, nA, nB, pw1]
theorem head3 : encV 4 3 2 = (0, 0, 1) := rfl
def hIn : List S23 := [⟨16, 64⟩, ⟨64, 256⟩]
def hMid : List S23 := [⟨256, 1024⟩, ⟨16, 64⟩]
def hOut : List S23 := [⟨256, 1024⟩, ⟨256, 1024⟩]
theorem hIn_ok : ciphsB hIn = true := by simp [ciphsB, ciphB, hIn, memB_16, memB_64, memB_256]
theorem hShuf : shufOk 4 hIn [1, 0] [0, 1] [1, 0] [0, 2] = true := by
  unfold shufOk
  rw [keyB_4, hIn_ok]
  decide
theorem hMid_eq : shufMid 4 hIn [1, 0] [1, 0] = hMid := by
  have e : List.range 2 = [0, 1] := by decide
  simp only [shufMid, mixL, hIn, List.length_cons, List.length_nil, Nat.zero_add, Nat.reduceAdd, e, List.map_cons, List.map_nil, hMid]
  simp [mixAt, rd, rd_T23, nA, nB, pw1, pw0]
theorem hOut_eq : shufOut 4 hIn [1, 0] [0, 1] [1, 0] [0, 2] = hOut := by
  have e : List.range 2 = [0, 1] := by decide
  have h := hMid_eq
  unfold shufMid at h
  unfold shufOut
  rw [h]
  simp only [mixL, hMid, List.length_cons, List.length_nil, Nat.zero_add, Nat.reduceAdd, e, List.map_cons, List.map_nil, hOut]
  simp [mixAt, rd, rd_T23, nA, nB, pw2, pw0]
theorem hShufV : shufV 4 hIn [1, 0] [0, 1] [1, 0] [0, 2] = (hMid, hOut, shufLinks 4 hIn [1, 0] [0, 1] [1, 0] [0, 2], 0) := by
  unfold shufV
  rw [if_pos hShuf, hMid_eq, hOut_eq]
theorem hBad : shufV 4 hIn [1, 1] [0, 1] [1, 0] [0, 2] = ([], [], [], 1) := by
  unfold shufV shufOk
  rw [show orderB [1, 1] (hIn.length : Nat) = false from by decide]
  simp
theorem hChk : chkV 4 hIn hMid hOut (shufLinks 4 hIn [1, 0] [0, 1] [1, 0] [0, 2]) = (true, 0) := by
  have h := shuf_chk hShuf
  rwa [hMid_eq, hOut_eq] at h
theorem hAsk : ∃ l, askV hIn hIn hIn = (l, 0) ∧ l.length = 2 := by
  unfold askV
  rw [ciphs_okL hIn_ok rfl]
  exact ⟨_, rfl, bitsL_len _ _⟩
end Go.Proofs.YtkaebblbmoolaaaDoor.P
