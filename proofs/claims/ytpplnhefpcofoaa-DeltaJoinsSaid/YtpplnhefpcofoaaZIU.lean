/- Rows of texts, read. -/
import Derived.Test.YtpplnhefpcofoaaZIC
namespace Go.Proofs.Ytpplnhefpcofoaa.PDeltaJoin
open Go.RowKit Go.Proofs.YtpplnhefpcofoaaW.PrintWords Go.Proofs.YtpplnhefpcofoaaW.PrintLast
set_option linter.unusedVariables false
set_option linter.unusedSimpArgs false
theorem drop_getD_S (l : List ByteArray) (k : Nat) (h : k < l.length) : l.drop k = l.getD k ⟨#[]⟩ :: l.drop (k + 1) := by
  rw [List.drop_eq_getElem_cons h, List.getD_eq_getElem?_getD, List.getElem?_eq_getElem h]
  rfl
theorem at_str {w : World} {A : Option Addr} {n : Nat} {xs : List ByteArray} (h : Kd.C Kd.string w A n xs) (k : Nat) (hk : k < n) : ∃ ad, A = some ad ∧ w.cell? (ad.add k) = some (.string (xs.getD k ⟨#[]⟩)) := by
  obtain ⟨ad, c, e, _, hK, hc⟩ := Kd.C_get h (⟨#[]⟩ : ByteArray) (k : Int) (by omega) (by omega)
  rw [Int.toNat_natCast] at hc hK
  refine ⟨ad, e, ?_⟩
  have h0 := hc 0 (.string (xs.getD k ⟨#[]⟩)) (by rw [show c = [Value.string (xs.getD k ⟨#[]⟩)] from hK]; rfl)
  have h1 : Kd.string.sz = 1 := rfl
  rw [h1, Nat.mul_one, Nat.add_zero] at h0
  exact h0
end Go.Proofs.Ytpplnhefpcofoaa.PDeltaJoin
