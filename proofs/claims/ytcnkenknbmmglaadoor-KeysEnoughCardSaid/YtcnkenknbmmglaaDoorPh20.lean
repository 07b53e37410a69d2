/- Chapter 20: the numbers of the head. -/
import Derived.Test.YtcnkenknbmmglaaDoorPk3
set_option linter.unusedSimpArgs false
set_option linter.unusedVariables false
namespace Go.Proofs.YtcnkenknbmmglaaDoor.P
open Go Go.RowKit Go.Proofs.YtcnkenknbmmglaaDoorW.PrintWords Go.Proofs.YtcnkenknbmmglaaDoorW.PrintLast Go.Proofs.YtcnkenknbmmglaaDoorW.PrintMore

theorem pub_2 : pub 2 = 16 := by decide
theorem pub_3 : pub 3 = 64 := by decide
theorem pub_5 : pub 5 = 1024 := by decide
theorem pub_6 : pub 6 = 4096 := by decide
theorem pub_7 : pub 7 = 16384 := by decide
theorem pub_8 : pub 8 = 65536 := by decide
theorem key_16 : keyV 16 = true := by have h := key_pub (n := 2) (by omega) (by omega); rw [pub_2] at h; exact h
theorem key_64 : keyV 64 = true := by have h := key_pub (n := 3) (by omega) (by omega); rw [pub_3] at h; exact h
theorem key_1024 : keyV 1024 = true := by have h := key_pub (n := 5) (by omega) (by omega); rw [pub_5] at h; exact h
theorem key_4096 : keyV 4096 = true := by have h := key_pub (n := 6) (by omega) (by omega); rw [pub_6] at h; exact h
theorem key_16384 : keyV 16384 = true := by have h := key_pub (n := 7) (by omega) (by omega); rw [pub_7] at h; exact h
theorem key_65536 : keyV 65536 = true := by have h := key_pub (n := 8) (by omega) (by omega); rw [pub_8] at h; exact h
def hK : List S49 := [⟨1, 1024, 0⟩, ⟨2, 4096, 0⟩, ⟨3, 16384, 0⟩]
def hM : List S49 := [⟨1, 1024, 0⟩, ⟨2, 4096, 0⟩, ⟨3, 16384, 0⟩, ⟨3, 65536, 9⟩]
def vA : S28 := mkV 3 65536 9 1 5 11
def vB : S28 := mkV 3 65536 9 2 6 12
theorem ok_of {x : S49} (h0 : homeV x.f0 = true) (h1 : dayV x.f2 = true) (h2 : keyV x.f1 = true) : keyOk x = true := by unfold keyOk; rw [h0, h1, h2]; rfl
theorem hK_valid : validB hK = true := (valid_iff _).2 ⟨by decide, by simp [hK, ltK], by
  intro x hx
  simp only [hK, List.mem_cons, List.not_mem_nil, or_false] at hx
  rcases hx with rfl | rfl | rfl
  · exact ok_of rfl rfl key_1024
  · exact ok_of rfl rfl key_4096
  · exact ok_of rfl rfl key_16384⟩
theorem hM_valid : validB hM = true := (valid_iff _).2 ⟨by decide, by simp [hM, ltK], by
  intro x hx
  simp only [hM, List.mem_cons, List.not_mem_nil, or_false] at hx
  rcases hx with rfl | rfl | rfl | rfl
  · exact ok_of rfl rfl key_1024
  · exact ok_of rfl rfl key_4096
  · exact ok_of rfl rfl key_16384
  · exact ok_of rfl rfl key_65536⟩
theorem hK_ord : hK.Pairwise ltK := ((valid_iff _).1 hK_valid).2.ord
theorem hM_ord : hM.Pairwise ltK := ((valid_iff _).1 hM_valid).2.ord
theorem hK_find1 : findV hK 1 9 = (1024, true) := find_some hK_ord (x := ⟨1, 1024, 0⟩) (by simp [hK]) ⟨rfl, by decide⟩ (by intro y hy ho; simp only [hK, List.mem_cons, List.not_mem_nil, or_false] at hy; obtain ⟨h0, h1⟩ := ho; rcases hy with rfl | rfl | rfl <;> simp at h0 ⊢)
theorem hK_find2 : findV hK 2 9 = (4096, true) := find_some hK_ord (x := ⟨2, 4096, 0⟩) (by simp [hK]) ⟨rfl, by decide⟩ (by intro y hy ho; simp only [hK, List.mem_cons, List.not_mem_nil, or_false] at hy; obtain ⟨h0, h1⟩ := ho; rcases hy with rfl | rfl | rfl <;> simp at h0 ⊢)
theorem hTryA : tryV hK [1, 2] ⟨3, 65536, 9⟩ vA = 0 := try_made (l := hK) (ns := [1, 2]) (x := ⟨3, 65536, 9⟩) (key := 5) (once := 11) (b := 1) (by omega) (by omega) (by omega) (by omega) (by rw [pub_5]; exact hK_find1) rfl
theorem hTryB : tryV hK [1, 2] ⟨3, 65536, 9⟩ vB = 0 := try_made (l := hK) (ns := [1, 2]) (x := ⟨3, 65536, 9⟩) (key := 6) (once := 12) (b := 2) (by omega) (by omega) (by omega) (by omega) (by rw [pub_6]; exact hK_find2) rfl
theorem says_of (v : List S28) (h0 : rd_T28 v 0 = vA) (h1 : v.any (othV vA) = false) : saysB [1, 2] v (rd_T28 v 0) = true := by
  rw [h0]
  unfold saysB
  rw [h1, show homeV vA.f0 = true from rfl, show keyV vA.f1 = true from key_65536, show dayV vA.f2 = true from rfl]
  rfl
theorem hForm (v : List S28) (hl : v.length = 2) (h0 : rd_T28 v 0 = vA) (h1 : v.any (othV vA) = false) : formedV [1, 2] 2 v = true := by
  unfold formedV
  rw [says_of v h0 h1, hl]
  rfl
theorem beh_end {l : List S49} (hl : l.Pairwise ltK) {h on : Int} (ha : ∀ x ∈ l, upTo h on x) : behV l h on = l.length := by
  obtain ⟨h1, h2⟩ := beh_split l hl h on
  have hb := behV_le l h on
  by_cases hc : behV l h on = l.length
  · exact hc
  · have hlt : behV l h on < l.length := by omega
    have hm : l[behV l h on] ∈ l.drop (behV l h on) := List.mem_drop_iff_getElem.2 ⟨0, by omega, rfl⟩
    exact absurd (ha _ (List.getElem_mem hlt)) (h2 _ hm)
theorem hAt : atV hK ⟨3, 65536, 9⟩ = 3 := beh_end hK_ord (by
  intro x hx
  simp only [hK, List.mem_cons, List.not_mem_nil, or_false] at hx
  rcases hx with rfl | rfl | rfl <;> decide)
theorem hLate : lateB hK ⟨3, 65536, 9⟩ = false := by
  unfold lateB
  rw [hAt]
  decide
theorem hRenew1 : renewV hK [1, 2] 2 [vA, vB] = (hM, 0) := by
  have e : newK [vA, vB] = ⟨3, 65536, 9⟩ := rfl
  unfold renewV
  rw [hK_valid, hForm [vA, vB] rfl rfl rfl, e, if_pos (show (true && true) = true from rfl), hLate, if_neg (by decide), hAt]
  have ht : allTry hK [1, 2] ⟨3, 65536, 9⟩ [vA, vB] [] = ([1, 2], 0) := by
    rw [allTry, if_pos hTryA, allTry, if_pos hTryB]
    rfl
  rw [ht]
  rfl
theorem hRenew2 : renewV hK [1, 2] 2 [vA, vA] = ([], 33) := by
  have e : newK [vA, vA] = ⟨3, 65536, 9⟩ := rfl
  unfold renewV
  rw [hK_valid, hForm [vA, vA] rfl rfl rfl, e, if_pos (show (true && true) = true from rfl), hLate, if_neg (by decide)]
  have ht : allTry hK [1, 2] ⟨3, 65536, 9⟩ [vA, vA] [] = ([1], 0) := by
    rw [allTry, if_pos hTryA, allTry, if_pos hTryA]
    rfl
  rw [ht]
  rfl
theorem hOf1 : ofV hM 3 8 = (16384, true, 0) := by
  have hf : findV hM 3 8 = (16384, true) := find_some hM_ord (x := ⟨3, 16384, 0⟩) (by simp [hM]) ⟨rfl, by decide⟩ (by intro y hy ho; simp only [hM, List.mem_cons, List.not_mem_nil, or_false] at hy; obtain ⟨h0, h1⟩ := ho; rcases hy with rfl | rfl | rfl | rfl <;> simp at h0 h1 ⊢)
  unfold ofV
  rw [hM_valid, hf]
  rfl
theorem hOf2 : ofV hM 3 9 = (65536, true, 0) := by
  have hf : findV hM 3 9 = (65536, true) := find_some hM_ord (x := ⟨3, 65536, 9⟩) (by simp [hM]) ⟨rfl, by decide⟩ (by intro y hy ho; exact ho.2)
  unfold ofV
  rw [hM_valid, hf]
  rfl
theorem hOf3 : ofV hM 4 9 = (0, false, 0) := by
  have hf : findV hM 4 9 = (0, false) := find_none hM_ord (by intro y hy ho; simp only [hM, List.mem_cons, List.not_mem_nil, or_false] at hy; obtain ⟨h0, h1⟩ := ho; rcases hy with rfl | rfl | rfl | rfl <;> simp at h0)
  unfold ofV
  rw [hM_valid, hf]
  rfl
theorem hVouchA : vouchV 3 65536 9 1 5 11 = (3, 65536, 9, 1, vA.f4.f0, vA.f4.f1, 0) := by
  unfold vouchV
  rw [show vouchB 3 65536 9 1 5 11 = true from vouch_ok (h := 3) (p := 65536) (on := 9) (b := 1) (key := 5) (once := 11) rfl rfl (by decide) key_65536 rfl (by omega) (by omega) (by omega) (by omega), if_pos rfl]
  rfl
theorem hVouchB : vouchV 3 65536 9 2 6 12 = (3, 65536, 9, 2, vB.f4.f0, vB.f4.f1, 0) := by
  unfold vouchV
  rw [show vouchB 3 65536 9 2 6 12 = true from vouch_ok (h := 3) (p := 65536) (on := 9) (b := 2) (key := 6) (once := 12) rfl rfl (by decide) key_65536 rfl (by omega) (by omega) (by omega) (by omega), if_pos rfl]
  rfl
end Go.Proofs.YtcnkenknbmmglaaDoor.P
