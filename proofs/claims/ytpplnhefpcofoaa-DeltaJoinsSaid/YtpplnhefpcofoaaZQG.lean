/- The reference's Apply, walked. -/
import Derived.Test.YtpplnhefpcofoaaZQF
namespace Go.Proofs.Ytpplnhefpcofoaa.PDeltaJoin
open Go.RowKit Go.Proofs.YtpplnhefpcofoaaW.PrintWords Go.Proofs.YtpplnhefpcofoaaW.PrintLast
set_option linter.unusedVariables false
set_option linter.unusedSimpArgs false

theorem atP_fst {l : List S63} {u : ByteArray} (h : inC l u) : (atP l u).1 = u := by
  unfold atP
  cases hf : l.find? (fun c => decide (c.f0 = u)) with
  | none =>
    obtain ⟨c, hc, e⟩ := h
    have := List.find?_eq_none.1 hf c hc
    simp [e] at this
  | some c => rfl
theorem R_slR {α : Type} {d : Kd α} {e base : Nat} {w : World} {ok : Nat → Prop} {v : Value} {xs : List α} (h : Kd.R d e w base ok v xs) : ∃ A m c, v = .slice A m c := by
  obtain ⟨A, c, he⟩ := Kd.R_slice h
  exact ⟨A, _, c, he⟩
end Go.Proofs.Ytpplnhefpcofoaa.PDeltaJoin
