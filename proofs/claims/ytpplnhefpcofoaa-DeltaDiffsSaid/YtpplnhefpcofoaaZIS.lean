/- The iterator 'merged' over strings. -/
import Derived.Test.YtpplnhefpcofoaaZIC
import Derived.Test.YtpplnhefpcofoaaZMS
namespace Go.Proofs.Ytpplnhefpcofoaa.PDeltaJoin
open Go.RowKit Go.Proofs.YtpplnhefpcofoaaW.PrintWords Go.Proofs.YtpplnhefpcofoaaW.PrintLast
set_option linter.unusedVariables false
set_option linter.unusedSimpArgs false
/-- What stands at one key. -/
structure MPS where
  l : ByteArray
  r : ByteArray
  isL : Bool
  isR : Bool
/-- The two lists, key by key. -/
def mrgS : List ByteArray → List ByteArray → List MPS
  | [], [] => []
  | x :: a, [] => ⟨x, ⟨#[]⟩, true, false⟩ :: mrgS a []
  | [], y :: b => ⟨⟨#[]⟩, y, false, true⟩ :: mrgS [] b
  | x :: a, y :: b => if kle x y = true then (if kle y x = true then ⟨x, y, true, true⟩ :: mrgS a b else ⟨x, ⟨#[]⟩, true, false⟩ :: mrgS a (y :: b)) else ⟨⟨#[]⟩, y, false, true⟩ :: mrgS (x :: a) b
termination_by a b => a.length + b.length
theorem mrgS_l (x : ByteArray) (a : List ByteArray) : mrgS (x :: a) [] = ⟨x, ⟨#[]⟩, true, false⟩ :: mrgS a [] := by rw [mrgS]
theorem mrgS_r (y : ByteArray) (b : List ByteArray) : mrgS [] (y :: b) = ⟨⟨#[]⟩, y, false, true⟩ :: mrgS [] b := by rw [mrgS]
theorem mrgS_nil : mrgS [] [] = [] := by rw [mrgS]
structure PVS (w0 : World) where
  p : MPS
end Go.Proofs.Ytpplnhefpcofoaa.PDeltaJoin
