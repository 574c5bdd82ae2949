/-
  NARROWER THAN 'FOR EVERY INPUT', by the rows' own cells (each row's printed sentence says how): LanePull: loops · LaneRefill: loops · LaneFifo: loops.
  DERIVED. THE GIVEN ROWS OF THIS SEAT. 3 by the template 'for every input the law returns true; each argument reads behind the call as it read before'; 0 by the template 'total and deterministic' (their statements: YtcbfddhdaamimaaTotals.lean).
  GIVEN WITH THE SEED: the statements are not yours to turn. If you find one false, say at which input.
  Laid BY PROGRAM, IN A SANDBOX (cutbox-rows.mjs): the forced cells as the released guide's own fill.sh prints them over the translation deb89d188b27d695… (all of the seat's roots in one cut). By AI agents, Wed Nov 11 2026. No macro, syntax, notation, axiom, sorry.
-/
import Derived.Test.YtcbfddhdaamimaaChecked
import GoSem.Claim
import GoSem.ClaimJoined
import GoSem.ClaimMapViews
import Derived.JoinedTies
import Derived.KernelRfl
namespace Go.Proofs.Ytcbfddhdaamimaa
/- THE CELL 'sum', in the pinned program and in every row, IS THE sha256 OF THE DUMP (.gsa) THAT YtcbfddhdaamimaaProg.lean LOADS. Nothing in Lean hashes anything: it is a label: what it is worth is what the hold of that sum in a sandbox is worth. -/
noncomputable def Try.pinned : Pinned := { name := "ytcbfddhdaamimaa", sum := "deb89d188b27d6957de35367d192f42d1c5860f335927f4119530511f1917e8a", checked := Try.checked }
namespace Rows
def none {H : Type} : Left H := { results := [], args := [] }

/-- 'eddylaw5.LanePull': WHATEVER THE INPUT: true; the input reads as it did. -/
def lanePullSpec : ChangeSpec := { name := "lanePull", fn := fun _ => fun
  | [d] => { results := [.lit (.bool true)], args := [d] }
  | _ => none }
def lanePullRow : OpenClaim := { program := "ytcbfddhdaamimaa", sum := "deb89d188b27d6957de35367d192f42d1c5860f335927f4119530511f1917e8a", func := "eddy/eddylaw5.LanePull", spec := "lanePull", recurses := true, loops := true, apart := false }
def LanePullSaid : Prop := lanePullRow.holds Try.pinned (OpenSpec.ofChange lanePullSpec)

/-- ITS FALSE NEIGHBOUR: 'it returns false'. Refute it at one input. -/
def lanePullWrong : ChangeSpec := { name := "lanePull", fn := fun _ => fun
  | [d] => { results := [.lit (.bool false)], args := [d] }
  | _ => none }
def LanePullWrongFalsely : Prop := lanePullRow.holds Try.pinned (OpenSpec.ofChange lanePullWrong)

/-- 'eddylaw5.LaneRefill': WHATEVER THE INPUT: true; the input reads as it did. -/
def laneRefillSpec : ChangeSpec := { name := "laneRefill", fn := fun _ => fun
  | [d1, d2, d3] => { results := [.lit (.bool true)], args := [d1, d2, d3] }
  | _ => none }
def laneRefillRow : OpenClaim := { program := "ytcbfddhdaamimaa", sum := "deb89d188b27d6957de35367d192f42d1c5860f335927f4119530511f1917e8a", func := "eddy/eddylaw5.LaneRefill", spec := "laneRefill", recurses := true, loops := true, apart := false }
def LaneRefillSaid : Prop := laneRefillRow.holds Try.pinned (OpenSpec.ofChange laneRefillSpec)

/-- ITS FALSE NEIGHBOUR: 'it returns false'. Refute it at one input. -/
def laneRefillWrong : ChangeSpec := { name := "laneRefill", fn := fun _ => fun
  | [d1, d2, d3] => { results := [.lit (.bool false)], args := [d1, d2, d3] }
  | _ => none }
def LaneRefillWrongFalsely : Prop := laneRefillRow.holds Try.pinned (OpenSpec.ofChange laneRefillWrong)

/-- 'eddylaw5.LaneFifo': WHATEVER THE INPUT: true; the input reads as it did. -/
def laneFifoSpec : ChangeSpec := { name := "laneFifo", fn := fun _ => fun
  | [d1, d2] => { results := [.lit (.bool true)], args := [d1, d2] }
  | _ => none }
def laneFifoRow : OpenClaim := { program := "ytcbfddhdaamimaa", sum := "deb89d188b27d6957de35367d192f42d1c5860f335927f4119530511f1917e8a", func := "eddy/eddylaw5.LaneFifo", spec := "laneFifo", recurses := true, loops := true, apart := false }
def LaneFifoSaid : Prop := laneFifoRow.holds Try.pinned (OpenSpec.ofChange laneFifoSpec)

/-- ITS FALSE NEIGHBOUR: 'it returns false'. Refute it at one input. -/
def laneFifoWrong : ChangeSpec := { name := "laneFifo", fn := fun _ => fun
  | [d1, d2] => { results := [.lit (.bool false)], args := [d1, d2] }
  | _ => none }
def LaneFifoWrongFalsely : Prop := laneFifoRow.holds Try.pinned (OpenSpec.ofChange laneFifoWrong)

/- THE SECOND FORM. 'bulk': how many values and letters a reading holds, each counted each time it is reached (what is shared counts as often as it is met; a slice's spare places count too). A statement '..UptoSaid' is the law's where the arguments, and the package variables that the reading takes, are together of bulk at most 1048576: NARROWER than '..Said'. Prove '..Said' where nothing that the law and all that it calls make is longer than what came in: it says more and counts as full. Else prove '..UptoSaid'. A law counts once. -/
mutual
def uptoBulk {H : Type} : DataW H → Nat
  | .lit (.string bytes) => bytes.length + 1
  | .lit _ => 1
  | .nil => 1
  | .ptr d => uptoBulk d + 1
  | .slice elems spare => uptoBulkAll elems + uptoBulkAll spare + 1
  | .agg parts => uptoBulkAll parts + 1
  | .iface _ d => uptoBulk d + 1
  | .map entries => uptoBulkEntries entries + 1
  | .held _ => 1
def uptoBulkAll {H : Type} : List (DataW H) → Nat
  | [] => 0
  | d :: r => uptoBulk d + uptoBulkAll r
def uptoBulkEntries {H : Type} : List (Lit × DataW H) → Nat
  | [] => 0
  | x :: r => uptoBulkEntry x + uptoBulkEntries r
def uptoBulkEntry {H : Type} : Lit × DataW H → Nat
  | (.string bytes, d) => bytes.length + uptoBulk d + 1
  | (_, d) => uptoBulk d + 1
 end
def uptoSmall : (H : Type) → List (DataW H) → Bool := fun _ ds => decide (uptoBulkAll ds ≤ 1048576)
def OpenSpec.upto (s : _root_.Go.ChangeSpec) : _root_.Go.OpenSpec := { _root_.Go.OpenSpec.ofChange s with cond := some uptoSmall }

/-- 'eddylaw5.LanePull', WHERE WHAT IT READS IS OF BULK AT MOST 1048576: true; the input reads as it did. -/
def lanePullUptoRow : OpenClaim := { program := "ytcbfddhdaamimaa", sum := "deb89d188b27d6957de35367d192f42d1c5860f335927f4119530511f1917e8a", func := "eddy/eddylaw5.LanePull", spec := "lanePull", recurses := true, loops := true, apart := false, narrowed := true }
def LanePullUptoSaid : Prop := lanePullUptoRow.holds Try.pinned (OpenSpec.upto lanePullSpec)

/-- 'eddylaw5.LaneRefill', WHERE WHAT IT READS IS OF BULK AT MOST 1048576: true; the input reads as it did. -/
def laneRefillUptoRow : OpenClaim := { program := "ytcbfddhdaamimaa", sum := "deb89d188b27d6957de35367d192f42d1c5860f335927f4119530511f1917e8a", func := "eddy/eddylaw5.LaneRefill", spec := "laneRefill", recurses := true, loops := true, apart := false, narrowed := true }
def LaneRefillUptoSaid : Prop := laneRefillUptoRow.holds Try.pinned (OpenSpec.upto laneRefillSpec)

/-- 'eddylaw5.LaneFifo', WHERE WHAT IT READS IS OF BULK AT MOST 1048576: true; the input reads as it did. -/
def laneFifoUptoRow : OpenClaim := { program := "ytcbfddhdaamimaa", sum := "deb89d188b27d6957de35367d192f42d1c5860f335927f4119530511f1917e8a", func := "eddy/eddylaw5.LaneFifo", spec := "laneFifo", recurses := true, loops := true, apart := false, narrowed := true }
def LaneFifoUptoSaid : Prop := laneFifoUptoRow.holds Try.pinned (OpenSpec.upto laneFifoSpec)

end Rows
end Go.Proofs.Ytcbfddhdaamimaa
