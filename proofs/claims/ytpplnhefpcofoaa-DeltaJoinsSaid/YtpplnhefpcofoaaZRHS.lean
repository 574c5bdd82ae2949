/- The merged list of texts: its length; the pair, boxed. -/
import Derived.Test.YtpplnhefpcofoaaZRH
import Derived.Test.YtpplnhefpcofoaaZITS
namespace Go.Proofs.Ytpplnhefpcofoaa.PDeltaJoin
open Go.RowKit Go.Proofs.YtpplnhefpcofoaaW.PrintWords Go.Proofs.YtpplnhefpcofoaaW.PrintLast
set_option linter.unusedVariables false
set_option linter.unusedSimpArgs false
def boxS {w0 : World} (x : PVS w0) : Array Value := #[.string x.p.l, .string x.p.r, .bool x.p.isL, .bool x.p.isR]
theorem mrgS_le : ∀ (N : Nat) (a b : List ByteArray), a.length + b.length ≤ N → (mrgS a b).length ≤ a.length + b.length
  | _, [], [], _ => by rw [mrgS_nil]; simp
  | 0, _ :: _, _, h => by simp at h
  | 0, [], _ :: _, h => by simp at h
  | N + 1, x :: a, [], h => by rw [mrgS_l]; have := mrgS_le N a [] (by simp at h ⊢; omega); simp at this ⊢; omega
  | N + 1, [], y :: b, h => by rw [mrgS_r]; have := mrgS_le N [] b (by simp at h ⊢; omega); simp at this ⊢; omega
  | N + 1, x :: a, y :: b, h => by
    rw [mrgS]
    simp only [List.length_cons] at h ⊢
    split
    · split
      · have := mrgS_le N a b (by omega); simp only [List.length_cons]; omega
      · have := mrgS_le N a (y :: b) (by simp only [List.length_cons]; omega); simp only [List.length_cons] at this ⊢; omega
    · have := mrgS_le N (x :: a) b (by simp only [List.length_cons]; omega); simp only [List.length_cons] at this ⊢; omega
end Go.Proofs.Ytpplnhefpcofoaa.PDeltaJoin
