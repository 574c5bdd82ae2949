/-
  NARROWER THAN 'FOR EVERY INPUT', by the rows' own cells (each row's printed sentence says how): PostShots: loops · PostAll: loops · PostStatus: loops.
  DERIVED. THE GIVEN ROWS OF THIS SEAT. 4 by the template 'for every input the law returns true; each argument reads behind the call as it read before'; 0 by the template 'total and deterministic' (their statements: YtcbaiplamaopeaaTotals.lean).
  GIVEN WITH THE SEED: the statements are not yours to turn. If you find one false, say at which input.
  Laid BY PROGRAM, IN A SANDBOX (cutbox-rows.mjs): the forced cells as the released guide's own fill.sh prints them over the translation bde7f8bfc3849414… (all of the seat's roots in one cut). By AI agents, Wed Nov 11 2026. No macro, syntax, notation, axiom, sorry.
-/
import Derived.Test.YtcbaiplamaopeaaChecked
import GoSem.Claim
import GoSem.ClaimJoined
import GoSem.ClaimMapViews
import Derived.JoinedTies
import Derived.KernelRfl
namespace Go.Proofs.Ytcbaiplamaopeaa
/- THE CELL 'sum', in the pinned program and in every row, IS THE sha256 OF THE DUMP (.gsa) THAT YtcbaiplamaopeaaProg.lean LOADS. Nothing in Lean hashes anything: it is a label: what it is worth is what the hold of that sum in a sandbox is worth. -/
noncomputable def Try.pinned : Pinned := { name := "ytcbaiplamaopeaa", sum := "bde7f8bfc3849414d97222ce46af3419483016a20a8410779413fa54eccd73c7", checked := Try.checked }
namespace Rows
def none {H : Type} : Left H := { results := [], args := [] }

/-- 'eddylaw14.PostRound': WHATEVER THE INPUT: true; the input reads as it did. -/
def postRoundSpec : ChangeSpec := { name := "postRound", fn := fun _ => fun
  | [d1, d2, d3, d4] => { results := [.lit (.bool true)], args := [d1, d2, d3, d4] }
  | _ => none }
def postRoundRow : OpenClaim := { program := "ytcbaiplamaopeaa", sum := "bde7f8bfc3849414d97222ce46af3419483016a20a8410779413fa54eccd73c7", func := "eddy/eddylaw14.PostRound", spec := "postRound", recurses := true, apart := false }
def PostRoundSaid : Prop := postRoundRow.holds Try.pinned (OpenSpec.ofChange postRoundSpec)

/-- ITS FALSE NEIGHBOUR: 'it returns false'. Refute it at one input. -/
def postRoundWrong : ChangeSpec := { name := "postRound", fn := fun _ => fun
  | [d1, d2, d3, d4] => { results := [.lit (.bool false)], args := [d1, d2, d3, d4] }
  | _ => none }
def PostRoundWrongFalsely : Prop := postRoundRow.holds Try.pinned (OpenSpec.ofChange postRoundWrong)

/-- 'eddylaw14.PostShots': WHATEVER THE INPUT: true; the input reads as it did. -/
def postShotsSpec : ChangeSpec := { name := "postShots", fn := fun _ => fun
  | [d1, d2, d3, d4] => { results := [.lit (.bool true)], args := [d1, d2, d3, d4] }
  | _ => none }
def postShotsRow : OpenClaim := { program := "ytcbaiplamaopeaa", sum := "bde7f8bfc3849414d97222ce46af3419483016a20a8410779413fa54eccd73c7", func := "eddy/eddylaw14.PostShots", spec := "postShots", recurses := true, loops := true, apart := false }
def PostShotsSaid : Prop := postShotsRow.holds Try.pinned (OpenSpec.ofChange postShotsSpec)

/-- ITS FALSE NEIGHBOUR: 'it returns false'. Refute it at one input. -/
def postShotsWrong : ChangeSpec := { name := "postShots", fn := fun _ => fun
  | [d1, d2, d3, d4] => { results := [.lit (.bool false)], args := [d1, d2, d3, d4] }
  | _ => none }
def PostShotsWrongFalsely : Prop := postShotsRow.holds Try.pinned (OpenSpec.ofChange postShotsWrong)

/-- 'eddylaw14.PostAll': WHATEVER THE INPUT: true; the input reads as it did. -/
def postAllSpec : ChangeSpec := { name := "postAll", fn := fun _ => fun
  | [d1, d2, d3, d4, d5, d6, d7] => { results := [.lit (.bool true)], args := [d1, d2, d3, d4, d5, d6, d7] }
  | _ => none }
def postAllRow : OpenClaim := { program := "ytcbaiplamaopeaa", sum := "bde7f8bfc3849414d97222ce46af3419483016a20a8410779413fa54eccd73c7", func := "eddy/eddylaw14.PostAll", spec := "postAll", recurses := true, loops := true, apart := false }
def PostAllSaid : Prop := postAllRow.holds Try.pinned (OpenSpec.ofChange postAllSpec)

/-- ITS FALSE NEIGHBOUR: 'it returns false'. Refute it at one input. -/
def postAllWrong : ChangeSpec := { name := "postAll", fn := fun _ => fun
  | [d1, d2, d3, d4, d5, d6, d7] => { results := [.lit (.bool false)], args := [d1, d2, d3, d4, d5, d6, d7] }
  | _ => none }
def PostAllWrongFalsely : Prop := postAllRow.holds Try.pinned (OpenSpec.ofChange postAllWrong)

/-- 'eddylaw14.PostStatus': WHATEVER THE INPUT: true; the input reads as it did. -/
def postStatusSpec : ChangeSpec := { name := "postStatus", fn := fun _ => fun
  | [d1, d2, d3] => { results := [.lit (.bool true)], args := [d1, d2, d3] }
  | _ => none }
def postStatusRow : OpenClaim := { program := "ytcbaiplamaopeaa", sum := "bde7f8bfc3849414d97222ce46af3419483016a20a8410779413fa54eccd73c7", func := "eddy/eddylaw14.PostStatus", spec := "postStatus", recurses := true, loops := true, apart := false }
def PostStatusSaid : Prop := postStatusRow.holds Try.pinned (OpenSpec.ofChange postStatusSpec)

/-- ITS FALSE NEIGHBOUR: 'it returns false'. Refute it at one input. -/
def postStatusWrong : ChangeSpec := { name := "postStatus", fn := fun _ => fun
  | [d1, d2, d3] => { results := [.lit (.bool false)], args := [d1, d2, d3] }
  | _ => none }
def PostStatusWrongFalsely : Prop := postStatusRow.holds Try.pinned (OpenSpec.ofChange postStatusWrong)

/- THE SECOND FORM. 'bulk': how many values and letters a reading holds, each counted each time it is reached (what is shared counts as often as it is met; a slice's spare places count too). A statement '..UptoSaid' is the law's where the arguments, and the package variables that the reading takes, are together of bulk at most 1048576: NARROWER than '..Said'. Prove '..Said' where nothing that the law and all that it calls make is longer than what came in: it says more and counts as full. Else prove '..UptoSaid'. A law counts once. -/
mutual
def uptoBulk {H : Type} : DataW H → Nat
  | .lit (.string bytes) => bytes.length + 1
  | .lit _ => 1
  | .nil => 1
  | .ptr d => uptoBulk d + 1
  | .slice elems spare => uptoBulkAll elems + uptoBulkAll spare + 1
  | .agg parts => uptoBulkAll parts + 1
  | .iface _ d => uptoBulk d + 1
  | .map entries => uptoBulkEntries entries + 1
  | .held _ => 1
def uptoBulkAll {H : Type} : List (DataW H) → Nat
  | [] => 0
  | d :: r => uptoBulk d + uptoBulkAll r
def uptoBulkEntries {H : Type} : List (Lit × DataW H) → Nat
  | [] => 0
  | x :: r => uptoBulkEntry x + uptoBulkEntries r
def uptoBulkEntry {H : Type} : Lit × DataW H → Nat
  | (.string bytes, d) => bytes.length + uptoBulk d + 1
  | (_, d) => uptoBulk d + 1
 end
def uptoSmall : (H : Type) → List (DataW H) → Bool := fun _ ds => decide (uptoBulkAll ds ≤ 1048576)
def OpenSpec.upto (s : _root_.Go.ChangeSpec) : _root_.Go.OpenSpec := { _root_.Go.OpenSpec.ofChange s with cond := some uptoSmall }

/-- 'eddylaw14.PostRound', WHERE WHAT IT READS IS OF BULK AT MOST 1048576: true; the input reads as it did. -/
def postRoundUptoRow : OpenClaim := { program := "ytcbaiplamaopeaa", sum := "bde7f8bfc3849414d97222ce46af3419483016a20a8410779413fa54eccd73c7", func := "eddy/eddylaw14.PostRound", spec := "postRound", recurses := true, apart := false, narrowed := true }
def PostRoundUptoSaid : Prop := postRoundUptoRow.holds Try.pinned (OpenSpec.upto postRoundSpec)

/-- 'eddylaw14.PostShots', WHERE WHAT IT READS IS OF BULK AT MOST 1048576: true; the input reads as it did. -/
def postShotsUptoRow : OpenClaim := { program := "ytcbaiplamaopeaa", sum := "bde7f8bfc3849414d97222ce46af3419483016a20a8410779413fa54eccd73c7", func := "eddy/eddylaw14.PostShots", spec := "postShots", recurses := true, loops := true, apart := false, narrowed := true }
def PostShotsUptoSaid : Prop := postShotsUptoRow.holds Try.pinned (OpenSpec.upto postShotsSpec)

/-- 'eddylaw14.PostAll', WHERE WHAT IT READS IS OF BULK AT MOST 1048576: true; the input reads as it did. -/
def postAllUptoRow : OpenClaim := { program := "ytcbaiplamaopeaa", sum := "bde7f8bfc3849414d97222ce46af3419483016a20a8410779413fa54eccd73c7", func := "eddy/eddylaw14.PostAll", spec := "postAll", recurses := true, loops := true, apart := false, narrowed := true }
def PostAllUptoSaid : Prop := postAllUptoRow.holds Try.pinned (OpenSpec.upto postAllSpec)

/-- 'eddylaw14.PostStatus', WHERE WHAT IT READS IS OF BULK AT MOST 1048576: true; the input reads as it did. -/
def postStatusUptoRow : OpenClaim := { program := "ytcbaiplamaopeaa", sum := "bde7f8bfc3849414d97222ce46af3419483016a20a8410779413fa54eccd73c7", func := "eddy/eddylaw14.PostStatus", spec := "postStatus", recurses := true, loops := true, apart := false, narrowed := true }
def PostStatusUptoSaid : Prop := postStatusUptoRow.holds Try.pinned (OpenSpec.upto postStatusSpec)

end Rows
end Go.Proofs.Ytcbaiplamaopeaa
