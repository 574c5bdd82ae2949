/- delta.Check. -/
import Derived.Test.YtpplnhefpcofoaaZCB
import Derived.Test.YtpplnhefpcofoaaZMS
namespace Go.Proofs.Ytpplnhefpcofoaa.PDeltaJoin
open Go.RowKit Go.Proofs.YtpplnhefpcofoaaW.PrintWords Go.Proofs.YtpplnhefpcofoaaW.PrintLast
set_option linter.unusedVariables false
set_option linter.unusedSimpArgs false

/-- The map of these cells' keys. -/
def fS (l : List S63) (k : ByteArray) : Int := if (l.any fun c => decide (c.f0 = k)) = true then 1 else 0
def fG (l : List ByteArray) (k : ByteArray) : Int := if (l.any fun c => decide (c = k)) = true then 1 else 0
def chkGone (f : ByteArray → Int) (p : Option ByteArray) : List ByteArray → Int
  | [] => 0
  | k :: ks => if 12 < k.size then 24 else if notAbove p k = true ∨ f k = 1 then 112 else chkGone f (some k) ks
/-- What delta.Check tells. -/
def chkD (num : Int) (set : List S63) (gone : List ByteArray) : Int := if chkS num set ≠ 0 then chkS num set else if 64 < gone.length then 111 else chkGone (fS set) none gone
theorem chkS_ok {num : Int} {l : List S63} (h : chkS num l = 0) : l.length ≤ 64 ∧ chkCells none l = 0 ∧ 0 ≤ num ∧ num ≤ 1073741824 := by
  unfold chkS at h
  split at h
  · simp at h
  · split at h
    · simp at h
    · exact ⟨by omega, h, by omega, by omega⟩
end Go.Proofs.Ytpplnhefpcofoaa.PDeltaJoin
