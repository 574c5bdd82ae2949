/- What a test answers. -/
import Derived.Test.YtpplnhefpcofoaaZK
namespace Go.Proofs.Ytpplnhefpcofoaa.PDeltaJoin
open Go.RowKit Go.Proofs.YtpplnhefpcofoaaW.PrintWords Go.Proofs.YtpplnhefpcofoaaW.PrintLast
def SaysB (bl : Bool) (w : World) (e : Ending) (w' : World) : Prop := e = .returned (.bool bl) ∧ Hid (Below w.heap.size w w')
end Go.Proofs.Ytpplnhefpcofoaa.PDeltaJoin
