/- The imports of this seat's texts, and what the types' tables say. -/
import Derived.Test.YtpplnhefpcofoaaProg
import Derived.Test.YtpplnhefpcofoaaZXB
import Derived.WalkKit
import Derived.WalkSpells
import Derived.WalkLawsBesides
import Derived.KernelRfl
import Derived.Lib.Hide
import Derived.Deep.LoopGhost
import Derived.Deep.DeepCutAuto
import Derived.Deep.CutBlock
import Derived.Deep.QuietTactic
import Derived.BigQuiet
import Derived.Deep.RegionHeld3
import Derived.Deep.RegionLaw
namespace Go.Proofs.Ytpplnhefpcofoaa.PDeltaJoin
theorem info63' : (Try.prog.info? 63).map (fun i => (i.zero, i.size, i.bytes)) = some (some (.agg #[(.string ⟨#[]⟩), (.slice none 0 0)]), 2, 40) := by kernel_rfl
end Go.Proofs.Ytpplnhefpcofoaa.PDeltaJoin
