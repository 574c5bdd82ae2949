/- The plainest call, plain. -/
import Derived.Test.YtpplnhefpcofoaaPJ
namespace Go.Proofs.Ytpplnhefpcofoaa.PDeltaJoin
set_option linter.unusedVariables false
set_option linter.unusedSimpArgs false
def v7 : S87 := ⟨1, 7, ⟨#[]⟩, []⟩
def cK : S63 := ⟨⟨#[107]⟩, [v7]⟩
theorem chk_v7 : chkVals [v7] = 0 := by
  unfold chkVals chkVals v7
  rw [chkV_eq 1 7 ⟨#[]⟩ [] 0 0 1 rfl]
  simp [chkL_nil, ByteArray.size]
theorem chk_cK : chkS 3 [cK] = 0 := by
  unfold chkS
  rw [if_neg (by omega), if_neg (by simp), chkCells_cons]
  unfold cK
  rw [if_neg (by decide), if_neg (by simp [notAbove]), if_neg (by simp), if_neg (by rw [chk_v7]; simp)]
  rfl
theorem chk_nil (n : Int) (h : 0 ≤ n) (h2 : n ≤ 1073741824) : chkS n [] = 0 := by
  unfold chkS
  rw [if_neg (by omega), if_neg (by simp)]
  rfl
theorem mrg_cK : mrgC [] [cK] = [⟨z63, cK, false, true⟩] := by rw [mrgC_r, mrgC_nil]
theorem diff_plain : diffP 0 [] 3 [cK] = (3, [cK], [], 0) := by
  unfold diffP
  rw [if_neg (by rw [chk_nil 0 (by omega) (by omega)]; simp), if_neg (by rw [chk_cK]; simp), mrg_cK]
  rfl
theorem chkD_plain : chkD 3 [cK] [] = 0 := by
  unfold chkD
  rw [if_neg (by rw [chk_cK]; simp), if_neg (by simp)]
  rfl
theorem apply_plain : applyP 8 [] 3 [cK] [] = (3, [cK], 0) := by
  unfold applyP
  rw [if_neg (by rw [chk_nil 8 (by omega) (by omega)]; simp), if_neg (by rw [chkD_plain]; simp), mrg_cK]
  rfl
end Go.Proofs.Ytpplnhefpcofoaa.PDeltaJoin
