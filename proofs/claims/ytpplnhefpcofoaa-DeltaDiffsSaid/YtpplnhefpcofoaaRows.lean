/-
  NARROWER THAN 'FOR EVERY INPUT', by the rows' own cells (each row's printed sentence says how): DeltaApplies: loops · DeltaJoins: loops · DeltaDiffs: loops · DeltaApply: loops · DeltaJoin: loops · DeltaChain: loops · DeltaAssoc: loops.
  DERIVED. THE GIVEN ROWS OF THIS SEAT. 7 by the template 'for every input the law returns true; each argument reads behind the call as it read before'; 0 by the template 'total and deterministic' (their statements: YtpplnhefpcofoaaTotals.lean).
  GIVEN WITH THE SEED: the statements are not yours to turn. If you find one false, say at which input.
  Laid BY PROGRAM, IN A SANDBOX (cutbox-rows.mjs): the forced cells as the released guide's own fill.sh prints them over the translation e46afe61f0969010… (all of the seat's roots in one cut). By AI agents, Wed Nov 11 2026. No macro, syntax, notation, axiom, sorry.
-/
import Derived.Test.YtpplnhefpcofoaaChecked
import GoSem.Claim
import GoSem.ClaimJoined
import GoSem.ClaimMapViews
import Derived.JoinedTies
import Derived.KernelRfl
namespace Go.Proofs.Ytpplnhefpcofoaa
/- THE CELL 'sum', in the pinned program and in every row, IS THE sha256 OF THE DUMP (.gsa) THAT YtpplnhefpcofoaaProg.lean LOADS. Nothing in Lean hashes anything: it is a label: what it is worth is what the hold of that sum in a sandbox is worth. -/
noncomputable def Try.pinned : Pinned := { name := "ytpplnhefpcofoaa", sum := "e46afe61f0969010c1463d047f6f5b697239bac993e6565ef83acdd649a2c964", checked := Try.checked }
namespace Rows
def none {H : Type} : Left H := { results := [], args := [] }

/-- 'eddylaw11.DeltaApplies': WHATEVER THE INPUT: true; the input reads as it did. -/
def deltaAppliesSpec : ChangeSpec := { name := "deltaApplies", fn := fun _ => fun
  | [d1, d2] => { results := [.lit (.bool true)], args := [d1, d2] }
  | _ => none }
def deltaAppliesRow : OpenClaim := { program := "ytpplnhefpcofoaa", sum := "e46afe61f0969010c1463d047f6f5b697239bac993e6565ef83acdd649a2c964", func := "eddy/eddylaw11.DeltaApplies", spec := "deltaApplies", unfollowed := true, recurses := true, loops := true, apart := false }
def DeltaAppliesSaid : Prop := deltaAppliesRow.holds Try.pinned (OpenSpec.ofChange deltaAppliesSpec)

/-- ITS FALSE NEIGHBOUR: 'it returns false'. Refute it at one input. -/
def deltaAppliesWrong : ChangeSpec := { name := "deltaApplies", fn := fun _ => fun
  | [d1, d2] => { results := [.lit (.bool false)], args := [d1, d2] }
  | _ => none }
def DeltaAppliesWrongFalsely : Prop := deltaAppliesRow.holds Try.pinned (OpenSpec.ofChange deltaAppliesWrong)

/-- 'eddylaw11.DeltaJoins': WHATEVER THE INPUT: true; the input reads as it did. -/
def deltaJoinsSpec : ChangeSpec := { name := "deltaJoins", fn := fun _ => fun
  | [d1, d2] => { results := [.lit (.bool true)], args := [d1, d2] }
  | _ => none }
def deltaJoinsRow : OpenClaim := { program := "ytpplnhefpcofoaa", sum := "e46afe61f0969010c1463d047f6f5b697239bac993e6565ef83acdd649a2c964", func := "eddy/eddylaw11.DeltaJoins", spec := "deltaJoins", unfollowed := true, recurses := true, loops := true, apart := false }
def DeltaJoinsSaid : Prop := deltaJoinsRow.holds Try.pinned (OpenSpec.ofChange deltaJoinsSpec)

/-- ITS FALSE NEIGHBOUR: 'it returns false'. Refute it at one input. -/
def deltaJoinsWrong : ChangeSpec := { name := "deltaJoins", fn := fun _ => fun
  | [d1, d2] => { results := [.lit (.bool false)], args := [d1, d2] }
  | _ => none }
def DeltaJoinsWrongFalsely : Prop := deltaJoinsRow.holds Try.pinned (OpenSpec.ofChange deltaJoinsWrong)

/-- 'eddylaw11.DeltaDiffs': WHATEVER THE INPUT: true; the input reads as it did. -/
def deltaDiffsSpec : ChangeSpec := { name := "deltaDiffs", fn := fun _ => fun
  | [d1, d2] => { results := [.lit (.bool true)], args := [d1, d2] }
  | _ => none }
def deltaDiffsRow : OpenClaim := { program := "ytpplnhefpcofoaa", sum := "e46afe61f0969010c1463d047f6f5b697239bac993e6565ef83acdd649a2c964", func := "eddy/eddylaw11.DeltaDiffs", spec := "deltaDiffs", unfollowed := true, recurses := true, loops := true, apart := false }
def DeltaDiffsSaid : Prop := deltaDiffsRow.holds Try.pinned (OpenSpec.ofChange deltaDiffsSpec)

/-- ITS FALSE NEIGHBOUR: 'it returns false'. Refute it at one input. -/
def deltaDiffsWrong : ChangeSpec := { name := "deltaDiffs", fn := fun _ => fun
  | [d1, d2] => { results := [.lit (.bool false)], args := [d1, d2] }
  | _ => none }
def DeltaDiffsWrongFalsely : Prop := deltaDiffsRow.holds Try.pinned (OpenSpec.ofChange deltaDiffsWrong)

/-- 'eddylaw11.DeltaApply': WHATEVER THE INPUT: true; the input reads as it did. -/
def deltaApplySpec : ChangeSpec := { name := "deltaApply", fn := fun _ => fun
  | [d1, d2] => { results := [.lit (.bool true)], args := [d1, d2] }
  | _ => none }
def deltaApplyRow : OpenClaim := { program := "ytpplnhefpcofoaa", sum := "e46afe61f0969010c1463d047f6f5b697239bac993e6565ef83acdd649a2c964", func := "eddy/eddylaw11.DeltaApply", spec := "deltaApply", unfollowed := true, recurses := true, loops := true, apart := false }
def DeltaApplySaid : Prop := deltaApplyRow.holds Try.pinned (OpenSpec.ofChange deltaApplySpec)

/-- ITS FALSE NEIGHBOUR: 'it returns false'. Refute it at one input. -/
def deltaApplyWrong : ChangeSpec := { name := "deltaApply", fn := fun _ => fun
  | [d1, d2] => { results := [.lit (.bool false)], args := [d1, d2] }
  | _ => none }
def DeltaApplyWrongFalsely : Prop := deltaApplyRow.holds Try.pinned (OpenSpec.ofChange deltaApplyWrong)

/-- 'eddylaw11.DeltaJoin': WHATEVER THE INPUT: true; the input reads as it did. -/
def deltaJoinSpec : ChangeSpec := { name := "deltaJoin", fn := fun _ => fun
  | [d1, d2, d3] => { results := [.lit (.bool true)], args := [d1, d2, d3] }
  | _ => none }
def deltaJoinRow : OpenClaim := { program := "ytpplnhefpcofoaa", sum := "e46afe61f0969010c1463d047f6f5b697239bac993e6565ef83acdd649a2c964", func := "eddy/eddylaw11.DeltaJoin", spec := "deltaJoin", unfollowed := true, recurses := true, loops := true, apart := false }
def DeltaJoinSaid : Prop := deltaJoinRow.holds Try.pinned (OpenSpec.ofChange deltaJoinSpec)

/-- ITS FALSE NEIGHBOUR: 'it returns false'. Refute it at one input. -/
def deltaJoinWrong : ChangeSpec := { name := "deltaJoin", fn := fun _ => fun
  | [d1, d2, d3] => { results := [.lit (.bool false)], args := [d1, d2, d3] }
  | _ => none }
def DeltaJoinWrongFalsely : Prop := deltaJoinRow.holds Try.pinned (OpenSpec.ofChange deltaJoinWrong)

/-- 'eddylaw11.DeltaChain': WHATEVER THE INPUT: true; the input reads as it did. -/
def deltaChainSpec : ChangeSpec := { name := "deltaChain", fn := fun _ => fun
  | [d] => { results := [.lit (.bool true)], args := [d] }
  | _ => none }
def deltaChainRow : OpenClaim := { program := "ytpplnhefpcofoaa", sum := "e46afe61f0969010c1463d047f6f5b697239bac993e6565ef83acdd649a2c964", func := "eddy/eddylaw11.DeltaChain", spec := "deltaChain", unfollowed := true, recurses := true, loops := true, apart := false }
def DeltaChainSaid : Prop := deltaChainRow.holds Try.pinned (OpenSpec.ofChange deltaChainSpec)

/-- ITS FALSE NEIGHBOUR: 'it returns false'. Refute it at one input. -/
def deltaChainWrong : ChangeSpec := { name := "deltaChain", fn := fun _ => fun
  | [d] => { results := [.lit (.bool false)], args := [d] }
  | _ => none }
def DeltaChainWrongFalsely : Prop := deltaChainRow.holds Try.pinned (OpenSpec.ofChange deltaChainWrong)

/-- 'eddylaw11.DeltaAssoc': WHATEVER THE INPUT: true; the input reads as it did. -/
def deltaAssocSpec : ChangeSpec := { name := "deltaAssoc", fn := fun _ => fun
  | [d1, d2, d3] => { results := [.lit (.bool true)], args := [d1, d2, d3] }
  | _ => none }
def deltaAssocRow : OpenClaim := { program := "ytpplnhefpcofoaa", sum := "e46afe61f0969010c1463d047f6f5b697239bac993e6565ef83acdd649a2c964", func := "eddy/eddylaw11.DeltaAssoc", spec := "deltaAssoc", unfollowed := true, recurses := true, loops := true, apart := false }
def DeltaAssocSaid : Prop := deltaAssocRow.holds Try.pinned (OpenSpec.ofChange deltaAssocSpec)

/-- ITS FALSE NEIGHBOUR: 'it returns false'. Refute it at one input. -/
def deltaAssocWrong : ChangeSpec := { name := "deltaAssoc", fn := fun _ => fun
  | [d1, d2, d3] => { results := [.lit (.bool false)], args := [d1, d2, d3] }
  | _ => none }
def DeltaAssocWrongFalsely : Prop := deltaAssocRow.holds Try.pinned (OpenSpec.ofChange deltaAssocWrong)

/- THE SECOND FORM. 'bulk': how many values and letters a reading holds, each counted each time it is reached (what is shared counts as often as it is met; a slice's spare places count too). A statement '..UptoSaid' is the law's where the arguments, and the package variables that the reading takes, are together of bulk at most 1048576: NARROWER than '..Said'. Prove '..Said' where nothing that the law and all that it calls make is longer than what came in: it says more and counts as full. Else prove '..UptoSaid'. A law counts once. -/
mutual
def uptoBulk {H : Type} : DataW H → Nat
  | .lit (.string bytes) => bytes.length + 1
  | .lit _ => 1
  | .nil => 1
  | .ptr d => uptoBulk d + 1
  | .slice elems spare => uptoBulkAll elems + uptoBulkAll spare + 1
  | .agg parts => uptoBulkAll parts + 1
  | .iface _ d => uptoBulk d + 1
  | .map entries => uptoBulkEntries entries + 1
  | .held _ => 1
def uptoBulkAll {H : Type} : List (DataW H) → Nat
  | [] => 0
  | d :: r => uptoBulk d + uptoBulkAll r
def uptoBulkEntries {H : Type} : List (Lit × DataW H) → Nat
  | [] => 0
  | x :: r => uptoBulkEntry x + uptoBulkEntries r
def uptoBulkEntry {H : Type} : Lit × DataW H → Nat
  | (.string bytes, d) => bytes.length + uptoBulk d + 1
  | (_, d) => uptoBulk d + 1
 end
def uptoSmall : (H : Type) → List (DataW H) → Bool := fun _ ds => decide (uptoBulkAll ds ≤ 1048576)
def OpenSpec.upto (s : _root_.Go.ChangeSpec) : _root_.Go.OpenSpec := { _root_.Go.OpenSpec.ofChange s with cond := some uptoSmall }

/-- 'eddylaw11.DeltaApplies', WHERE WHAT IT READS IS OF BULK AT MOST 1048576: true; the input reads as it did. -/
def deltaAppliesUptoRow : OpenClaim := { program := "ytpplnhefpcofoaa", sum := "e46afe61f0969010c1463d047f6f5b697239bac993e6565ef83acdd649a2c964", func := "eddy/eddylaw11.DeltaApplies", spec := "deltaApplies", unfollowed := true, recurses := true, loops := true, apart := false, narrowed := true }
def DeltaAppliesUptoSaid : Prop := deltaAppliesUptoRow.holds Try.pinned (OpenSpec.upto deltaAppliesSpec)

/-- 'eddylaw11.DeltaJoins', WHERE WHAT IT READS IS OF BULK AT MOST 1048576: true; the input reads as it did. -/
def deltaJoinsUptoRow : OpenClaim := { program := "ytpplnhefpcofoaa", sum := "e46afe61f0969010c1463d047f6f5b697239bac993e6565ef83acdd649a2c964", func := "eddy/eddylaw11.DeltaJoins", spec := "deltaJoins", unfollowed := true, recurses := true, loops := true, apart := false, narrowed := true }
def DeltaJoinsUptoSaid : Prop := deltaJoinsUptoRow.holds Try.pinned (OpenSpec.upto deltaJoinsSpec)

/-- 'eddylaw11.DeltaDiffs', WHERE WHAT IT READS IS OF BULK AT MOST 1048576: true; the input reads as it did. -/
def deltaDiffsUptoRow : OpenClaim := { program := "ytpplnhefpcofoaa", sum := "e46afe61f0969010c1463d047f6f5b697239bac993e6565ef83acdd649a2c964", func := "eddy/eddylaw11.DeltaDiffs", spec := "deltaDiffs", unfollowed := true, recurses := true, loops := true, apart := false, narrowed := true }
def DeltaDiffsUptoSaid : Prop := deltaDiffsUptoRow.holds Try.pinned (OpenSpec.upto deltaDiffsSpec)

/-- 'eddylaw11.DeltaApply', WHERE WHAT IT READS IS OF BULK AT MOST 1048576: true; the input reads as it did. -/
def deltaApplyUptoRow : OpenClaim := { program := "ytpplnhefpcofoaa", sum := "e46afe61f0969010c1463d047f6f5b697239bac993e6565ef83acdd649a2c964", func := "eddy/eddylaw11.DeltaApply", spec := "deltaApply", unfollowed := true, recurses := true, loops := true, apart := false, narrowed := true }
def DeltaApplyUptoSaid : Prop := deltaApplyUptoRow.holds Try.pinned (OpenSpec.upto deltaApplySpec)

/-- 'eddylaw11.DeltaJoin', WHERE WHAT IT READS IS OF BULK AT MOST 1048576: true; the input reads as it did. -/
def deltaJoinUptoRow : OpenClaim := { program := "ytpplnhefpcofoaa", sum := "e46afe61f0969010c1463d047f6f5b697239bac993e6565ef83acdd649a2c964", func := "eddy/eddylaw11.DeltaJoin", spec := "deltaJoin", unfollowed := true, recurses := true, loops := true, apart := false, narrowed := true }
def DeltaJoinUptoSaid : Prop := deltaJoinUptoRow.holds Try.pinned (OpenSpec.upto deltaJoinSpec)

/-- 'eddylaw11.DeltaChain', WHERE WHAT IT READS IS OF BULK AT MOST 1048576: true; the input reads as it did. -/
def deltaChainUptoRow : OpenClaim := { program := "ytpplnhefpcofoaa", sum := "e46afe61f0969010c1463d047f6f5b697239bac993e6565ef83acdd649a2c964", func := "eddy/eddylaw11.DeltaChain", spec := "deltaChain", unfollowed := true, recurses := true, loops := true, apart := false, narrowed := true }
def DeltaChainUptoSaid : Prop := deltaChainUptoRow.holds Try.pinned (OpenSpec.upto deltaChainSpec)

/-- 'eddylaw11.DeltaAssoc', WHERE WHAT IT READS IS OF BULK AT MOST 1048576: true; the input reads as it did. -/
def deltaAssocUptoRow : OpenClaim := { program := "ytpplnhefpcofoaa", sum := "e46afe61f0969010c1463d047f6f5b697239bac993e6565ef83acdd649a2c964", func := "eddy/eddylaw11.DeltaAssoc", spec := "deltaAssoc", unfollowed := true, recurses := true, loops := true, apart := false, narrowed := true }
def DeltaAssocUptoSaid : Prop := deltaAssocUptoRow.holds Try.pinned (OpenSpec.upto deltaAssocSpec)

end Rows
end Go.Proofs.Ytpplnhefpcofoaa
