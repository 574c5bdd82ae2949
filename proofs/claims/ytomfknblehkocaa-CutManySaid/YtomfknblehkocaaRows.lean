/-
  NARROWER THAN 'FOR EVERY INPUT', by the rows' own cells (each row's printed sentence says how): CutLogs: loops · CutMarks: loops · CutTooks: loops · CutParts: loops · CutPlays: loops · CutTwo: loops · CutHeld: loops · CutRises: loops · CutMeets: loops · CutMany: loops.
  DERIVED. THE GIVEN ROWS OF THIS SEAT. 10 by the template 'for every input the law returns true; each argument reads behind the call as it read before'; 0 by the template 'total and deterministic' (their statements: YtomfknblehkocaaTotals.lean).
  GIVEN WITH THE SEED: the statements are not yours to turn. If you find one false, say at which input.
  Laid BY PROGRAM, IN A SANDBOX (cutbox-rows.mjs): the forced cells as the released guide's own fill.sh prints them over the translation 299e861dd9c19d93… (all of the seat's roots in one cut). By AI agents, Wed Nov 11 2026. No macro, syntax, notation, axiom, sorry.
-/
import Derived.Test.YtomfknblehkocaaChecked
import GoSem.Claim
import GoSem.ClaimJoined
import GoSem.ClaimMapViews
import Derived.JoinedTies
import Derived.KernelRfl
namespace Go.Proofs.Ytomfknblehkocaa
/- THE CELL 'sum', in the pinned program and in every row, IS THE sha256 OF THE DUMP (.gsa) THAT YtomfknblehkocaaProg.lean LOADS. Nothing in Lean hashes anything: it is a label: what it is worth is what the hold of that sum in a sandbox is worth. -/
noncomputable def Try.pinned : Pinned := { name := "ytomfknblehkocaa", sum := "299e861dd9c19d93688b6eab3fda6ca9268faa9b0153669b6b2d3bc271135b35", checked := Try.checked }
namespace Rows
def none {H : Type} : Left H := { results := [], args := [] }

/-- 'eddylaw13.CutLogs': WHATEVER THE INPUT: true; the input reads as it did. -/
def cutLogsSpec : ChangeSpec := { name := "cutLogs", fn := fun _ => fun
  | [d1, d2, d3, d4] => { results := [.lit (.bool true)], args := [d1, d2, d3, d4] }
  | _ => none }
def cutLogsRow : OpenClaim := { program := "ytomfknblehkocaa", sum := "299e861dd9c19d93688b6eab3fda6ca9268faa9b0153669b6b2d3bc271135b35", func := "eddy/eddylaw13.CutLogs", spec := "cutLogs", recurses := true, loops := true, apart := false }
def CutLogsSaid : Prop := cutLogsRow.holds Try.pinned (OpenSpec.ofChange cutLogsSpec)

/-- ITS FALSE NEIGHBOUR: 'it returns false'. Refute it at one input. -/
def cutLogsWrong : ChangeSpec := { name := "cutLogs", fn := fun _ => fun
  | [d1, d2, d3, d4] => { results := [.lit (.bool false)], args := [d1, d2, d3, d4] }
  | _ => none }
def CutLogsWrongFalsely : Prop := cutLogsRow.holds Try.pinned (OpenSpec.ofChange cutLogsWrong)

/-- 'eddylaw13.CutMarks': WHATEVER THE INPUT: true; the input reads as it did. -/
def cutMarksSpec : ChangeSpec := { name := "cutMarks", fn := fun _ => fun
  | [d1, d2, d3, d4] => { results := [.lit (.bool true)], args := [d1, d2, d3, d4] }
  | _ => none }
def cutMarksRow : OpenClaim := { program := "ytomfknblehkocaa", sum := "299e861dd9c19d93688b6eab3fda6ca9268faa9b0153669b6b2d3bc271135b35", func := "eddy/eddylaw13.CutMarks", spec := "cutMarks", recurses := true, loops := true, apart := false }
def CutMarksSaid : Prop := cutMarksRow.holds Try.pinned (OpenSpec.ofChange cutMarksSpec)

/-- ITS FALSE NEIGHBOUR: 'it returns false'. Refute it at one input. -/
def cutMarksWrong : ChangeSpec := { name := "cutMarks", fn := fun _ => fun
  | [d1, d2, d3, d4] => { results := [.lit (.bool false)], args := [d1, d2, d3, d4] }
  | _ => none }
def CutMarksWrongFalsely : Prop := cutMarksRow.holds Try.pinned (OpenSpec.ofChange cutMarksWrong)

/-- 'eddylaw13.CutTooks': WHATEVER THE INPUT: true; the input reads as it did. -/
def cutTooksSpec : ChangeSpec := { name := "cutTooks", fn := fun _ => fun
  | [d1, d2, d3, d4] => { results := [.lit (.bool true)], args := [d1, d2, d3, d4] }
  | _ => none }
def cutTooksRow : OpenClaim := { program := "ytomfknblehkocaa", sum := "299e861dd9c19d93688b6eab3fda6ca9268faa9b0153669b6b2d3bc271135b35", func := "eddy/eddylaw13.CutTooks", spec := "cutTooks", recurses := true, loops := true, apart := false }
def CutTooksSaid : Prop := cutTooksRow.holds Try.pinned (OpenSpec.ofChange cutTooksSpec)

/-- ITS FALSE NEIGHBOUR: 'it returns false'. Refute it at one input. -/
def cutTooksWrong : ChangeSpec := { name := "cutTooks", fn := fun _ => fun
  | [d1, d2, d3, d4] => { results := [.lit (.bool false)], args := [d1, d2, d3, d4] }
  | _ => none }
def CutTooksWrongFalsely : Prop := cutTooksRow.holds Try.pinned (OpenSpec.ofChange cutTooksWrong)

/-- 'eddylaw13.CutParts': WHATEVER THE INPUT: true; the input reads as it did. -/
def cutPartsSpec : ChangeSpec := { name := "cutParts", fn := fun _ => fun
  | [d1, d2, d3, d4] => { results := [.lit (.bool true)], args := [d1, d2, d3, d4] }
  | _ => none }
def cutPartsRow : OpenClaim := { program := "ytomfknblehkocaa", sum := "299e861dd9c19d93688b6eab3fda6ca9268faa9b0153669b6b2d3bc271135b35", func := "eddy/eddylaw13.CutParts", spec := "cutParts", recurses := true, loops := true, apart := false }
def CutPartsSaid : Prop := cutPartsRow.holds Try.pinned (OpenSpec.ofChange cutPartsSpec)

/-- ITS FALSE NEIGHBOUR: 'it returns false'. Refute it at one input. -/
def cutPartsWrong : ChangeSpec := { name := "cutParts", fn := fun _ => fun
  | [d1, d2, d3, d4] => { results := [.lit (.bool false)], args := [d1, d2, d3, d4] }
  | _ => none }
def CutPartsWrongFalsely : Prop := cutPartsRow.holds Try.pinned (OpenSpec.ofChange cutPartsWrong)

/-- 'eddylaw13.CutPlays': WHATEVER THE INPUT: true; the input reads as it did. -/
def cutPlaysSpec : ChangeSpec := { name := "cutPlays", fn := fun _ => fun
  | [d1, d2, d3, d4] => { results := [.lit (.bool true)], args := [d1, d2, d3, d4] }
  | _ => none }
def cutPlaysRow : OpenClaim := { program := "ytomfknblehkocaa", sum := "299e861dd9c19d93688b6eab3fda6ca9268faa9b0153669b6b2d3bc271135b35", func := "eddy/eddylaw13.CutPlays", spec := "cutPlays", recurses := true, loops := true, apart := false }
def CutPlaysSaid : Prop := cutPlaysRow.holds Try.pinned (OpenSpec.ofChange cutPlaysSpec)

/-- ITS FALSE NEIGHBOUR: 'it returns false'. Refute it at one input. -/
def cutPlaysWrong : ChangeSpec := { name := "cutPlays", fn := fun _ => fun
  | [d1, d2, d3, d4] => { results := [.lit (.bool false)], args := [d1, d2, d3, d4] }
  | _ => none }
def CutPlaysWrongFalsely : Prop := cutPlaysRow.holds Try.pinned (OpenSpec.ofChange cutPlaysWrong)

/-- 'eddylaw13.CutTwo': WHATEVER THE INPUT: true; the input reads as it did. -/
def cutTwoSpec : ChangeSpec := { name := "cutTwo", fn := fun _ => fun
  | [d1, d2, d3, d4, d5] => { results := [.lit (.bool true)], args := [d1, d2, d3, d4, d5] }
  | _ => none }
def cutTwoRow : OpenClaim := { program := "ytomfknblehkocaa", sum := "299e861dd9c19d93688b6eab3fda6ca9268faa9b0153669b6b2d3bc271135b35", func := "eddy/eddylaw13.CutTwo", spec := "cutTwo", recurses := true, loops := true, apart := false }
def CutTwoSaid : Prop := cutTwoRow.holds Try.pinned (OpenSpec.ofChange cutTwoSpec)

/-- ITS FALSE NEIGHBOUR: 'it returns false'. Refute it at one input. -/
def cutTwoWrong : ChangeSpec := { name := "cutTwo", fn := fun _ => fun
  | [d1, d2, d3, d4, d5] => { results := [.lit (.bool false)], args := [d1, d2, d3, d4, d5] }
  | _ => none }
def CutTwoWrongFalsely : Prop := cutTwoRow.holds Try.pinned (OpenSpec.ofChange cutTwoWrong)

/-- 'eddylaw13.CutHeld': WHATEVER THE INPUT: true; the input reads as it did. -/
def cutHeldSpec : ChangeSpec := { name := "cutHeld", fn := fun _ => fun
  | [d1, d2, d3, d4] => { results := [.lit (.bool true)], args := [d1, d2, d3, d4] }
  | _ => none }
def cutHeldRow : OpenClaim := { program := "ytomfknblehkocaa", sum := "299e861dd9c19d93688b6eab3fda6ca9268faa9b0153669b6b2d3bc271135b35", func := "eddy/eddylaw13.CutHeld", spec := "cutHeld", recurses := true, loops := true, apart := false }
def CutHeldSaid : Prop := cutHeldRow.holds Try.pinned (OpenSpec.ofChange cutHeldSpec)

/-- ITS FALSE NEIGHBOUR: 'it returns false'. Refute it at one input. -/
def cutHeldWrong : ChangeSpec := { name := "cutHeld", fn := fun _ => fun
  | [d1, d2, d3, d4] => { results := [.lit (.bool false)], args := [d1, d2, d3, d4] }
  | _ => none }
def CutHeldWrongFalsely : Prop := cutHeldRow.holds Try.pinned (OpenSpec.ofChange cutHeldWrong)

/-- 'eddylaw13.CutRises': WHATEVER THE INPUT: true; the input reads as it did. -/
def cutRisesSpec : ChangeSpec := { name := "cutRises", fn := fun _ => fun
  | [d1, d2, d3, d4] => { results := [.lit (.bool true)], args := [d1, d2, d3, d4] }
  | _ => none }
def cutRisesRow : OpenClaim := { program := "ytomfknblehkocaa", sum := "299e861dd9c19d93688b6eab3fda6ca9268faa9b0153669b6b2d3bc271135b35", func := "eddy/eddylaw13.CutRises", spec := "cutRises", recurses := true, loops := true, apart := false }
def CutRisesSaid : Prop := cutRisesRow.holds Try.pinned (OpenSpec.ofChange cutRisesSpec)

/-- ITS FALSE NEIGHBOUR: 'it returns false'. Refute it at one input. -/
def cutRisesWrong : ChangeSpec := { name := "cutRises", fn := fun _ => fun
  | [d1, d2, d3, d4] => { results := [.lit (.bool false)], args := [d1, d2, d3, d4] }
  | _ => none }
def CutRisesWrongFalsely : Prop := cutRisesRow.holds Try.pinned (OpenSpec.ofChange cutRisesWrong)

/-- 'eddylaw13.CutMeets': WHATEVER THE INPUT: true; the input reads as it did. -/
def cutMeetsSpec : ChangeSpec := { name := "cutMeets", fn := fun _ => fun
  | [d1, d2, d3, d4, d5, d6] => { results := [.lit (.bool true)], args := [d1, d2, d3, d4, d5, d6] }
  | _ => none }
def cutMeetsRow : OpenClaim := { program := "ytomfknblehkocaa", sum := "299e861dd9c19d93688b6eab3fda6ca9268faa9b0153669b6b2d3bc271135b35", func := "eddy/eddylaw13.CutMeets", spec := "cutMeets", recurses := true, loops := true, apart := false }
def CutMeetsSaid : Prop := cutMeetsRow.holds Try.pinned (OpenSpec.ofChange cutMeetsSpec)

/-- ITS FALSE NEIGHBOUR: 'it returns false'. Refute it at one input. -/
def cutMeetsWrong : ChangeSpec := { name := "cutMeets", fn := fun _ => fun
  | [d1, d2, d3, d4, d5, d6] => { results := [.lit (.bool false)], args := [d1, d2, d3, d4, d5, d6] }
  | _ => none }
def CutMeetsWrongFalsely : Prop := cutMeetsRow.holds Try.pinned (OpenSpec.ofChange cutMeetsWrong)

/-- 'eddylaw13.CutMany': WHATEVER THE INPUT: true; the input reads as it did. -/
def cutManySpec : ChangeSpec := { name := "cutMany", fn := fun _ => fun
  | [d1, d2] => { results := [.lit (.bool true)], args := [d1, d2] }
  | _ => none }
def cutManyRow : OpenClaim := { program := "ytomfknblehkocaa", sum := "299e861dd9c19d93688b6eab3fda6ca9268faa9b0153669b6b2d3bc271135b35", func := "eddy/eddylaw13.CutMany", spec := "cutMany", recurses := true, loops := true, apart := false }
def CutManySaid : Prop := cutManyRow.holds Try.pinned (OpenSpec.ofChange cutManySpec)

/-- ITS FALSE NEIGHBOUR: 'it returns false'. Refute it at one input. -/
def cutManyWrong : ChangeSpec := { name := "cutMany", fn := fun _ => fun
  | [d1, d2] => { results := [.lit (.bool false)], args := [d1, d2] }
  | _ => none }
def CutManyWrongFalsely : Prop := cutManyRow.holds Try.pinned (OpenSpec.ofChange cutManyWrong)

/- THE SECOND FORM. 'bulk': how many values and letters a reading holds, each counted each time it is reached (what is shared counts as often as it is met; a slice's spare places count too). A statement '..UptoSaid' is the law's where the arguments, and the package variables that the reading takes, are together of bulk at most 1048576: NARROWER than '..Said'. Prove '..Said' where nothing that the law and all that it calls make is longer than what came in: it says more and counts as full. Else prove '..UptoSaid'. A law counts once. -/
mutual
def uptoBulk {H : Type} : DataW H → Nat
  | .lit (.string bytes) => bytes.length + 1
  | .lit _ => 1
  | .nil => 1
  | .ptr d => uptoBulk d + 1
  | .slice elems spare => uptoBulkAll elems + uptoBulkAll spare + 1
  | .agg parts => uptoBulkAll parts + 1
  | .iface _ d => uptoBulk d + 1
  | .map entries => uptoBulkEntries entries + 1
  | .held _ => 1
def uptoBulkAll {H : Type} : List (DataW H) → Nat
  | [] => 0
  | d :: r => uptoBulk d + uptoBulkAll r
def uptoBulkEntries {H : Type} : List (Lit × DataW H) → Nat
  | [] => 0
  | x :: r => uptoBulkEntry x + uptoBulkEntries r
def uptoBulkEntry {H : Type} : Lit × DataW H → Nat
  | (.string bytes, d) => bytes.length + uptoBulk d + 1
  | (_, d) => uptoBulk d + 1
 end
def uptoSmall : (H : Type) → List (DataW H) → Bool := fun _ ds => decide (uptoBulkAll ds ≤ 1048576)
def OpenSpec.upto (s : _root_.Go.ChangeSpec) : _root_.Go.OpenSpec := { _root_.Go.OpenSpec.ofChange s with cond := some uptoSmall }

/-- 'eddylaw13.CutLogs', WHERE WHAT IT READS IS OF BULK AT MOST 1048576: true; the input reads as it did. -/
def cutLogsUptoRow : OpenClaim := { program := "ytomfknblehkocaa", sum := "299e861dd9c19d93688b6eab3fda6ca9268faa9b0153669b6b2d3bc271135b35", func := "eddy/eddylaw13.CutLogs", spec := "cutLogs", recurses := true, loops := true, apart := false, narrowed := true }
def CutLogsUptoSaid : Prop := cutLogsUptoRow.holds Try.pinned (OpenSpec.upto cutLogsSpec)

/-- 'eddylaw13.CutMarks', WHERE WHAT IT READS IS OF BULK AT MOST 1048576: true; the input reads as it did. -/
def cutMarksUptoRow : OpenClaim := { program := "ytomfknblehkocaa", sum := "299e861dd9c19d93688b6eab3fda6ca9268faa9b0153669b6b2d3bc271135b35", func := "eddy/eddylaw13.CutMarks", spec := "cutMarks", recurses := true, loops := true, apart := false, narrowed := true }
def CutMarksUptoSaid : Prop := cutMarksUptoRow.holds Try.pinned (OpenSpec.upto cutMarksSpec)

/-- 'eddylaw13.CutTooks', WHERE WHAT IT READS IS OF BULK AT MOST 1048576: true; the input reads as it did. -/
def cutTooksUptoRow : OpenClaim := { program := "ytomfknblehkocaa", sum := "299e861dd9c19d93688b6eab3fda6ca9268faa9b0153669b6b2d3bc271135b35", func := "eddy/eddylaw13.CutTooks", spec := "cutTooks", recurses := true, loops := true, apart := false, narrowed := true }
def CutTooksUptoSaid : Prop := cutTooksUptoRow.holds Try.pinned (OpenSpec.upto cutTooksSpec)

/-- 'eddylaw13.CutParts', WHERE WHAT IT READS IS OF BULK AT MOST 1048576: true; the input reads as it did. -/
def cutPartsUptoRow : OpenClaim := { program := "ytomfknblehkocaa", sum := "299e861dd9c19d93688b6eab3fda6ca9268faa9b0153669b6b2d3bc271135b35", func := "eddy/eddylaw13.CutParts", spec := "cutParts", recurses := true, loops := true, apart := false, narrowed := true }
def CutPartsUptoSaid : Prop := cutPartsUptoRow.holds Try.pinned (OpenSpec.upto cutPartsSpec)

/-- 'eddylaw13.CutPlays', WHERE WHAT IT READS IS OF BULK AT MOST 1048576: true; the input reads as it did. -/
def cutPlaysUptoRow : OpenClaim := { program := "ytomfknblehkocaa", sum := "299e861dd9c19d93688b6eab3fda6ca9268faa9b0153669b6b2d3bc271135b35", func := "eddy/eddylaw13.CutPlays", spec := "cutPlays", recurses := true, loops := true, apart := false, narrowed := true }
def CutPlaysUptoSaid : Prop := cutPlaysUptoRow.holds Try.pinned (OpenSpec.upto cutPlaysSpec)

/-- 'eddylaw13.CutTwo', WHERE WHAT IT READS IS OF BULK AT MOST 1048576: true; the input reads as it did. -/
def cutTwoUptoRow : OpenClaim := { program := "ytomfknblehkocaa", sum := "299e861dd9c19d93688b6eab3fda6ca9268faa9b0153669b6b2d3bc271135b35", func := "eddy/eddylaw13.CutTwo", spec := "cutTwo", recurses := true, loops := true, apart := false, narrowed := true }
def CutTwoUptoSaid : Prop := cutTwoUptoRow.holds Try.pinned (OpenSpec.upto cutTwoSpec)

/-- 'eddylaw13.CutHeld', WHERE WHAT IT READS IS OF BULK AT MOST 1048576: true; the input reads as it did. -/
def cutHeldUptoRow : OpenClaim := { program := "ytomfknblehkocaa", sum := "299e861dd9c19d93688b6eab3fda6ca9268faa9b0153669b6b2d3bc271135b35", func := "eddy/eddylaw13.CutHeld", spec := "cutHeld", recurses := true, loops := true, apart := false, narrowed := true }
def CutHeldUptoSaid : Prop := cutHeldUptoRow.holds Try.pinned (OpenSpec.upto cutHeldSpec)

/-- 'eddylaw13.CutRises', WHERE WHAT IT READS IS OF BULK AT MOST 1048576: true; the input reads as it did. -/
def cutRisesUptoRow : OpenClaim := { program := "ytomfknblehkocaa", sum := "299e861dd9c19d93688b6eab3fda6ca9268faa9b0153669b6b2d3bc271135b35", func := "eddy/eddylaw13.CutRises", spec := "cutRises", recurses := true, loops := true, apart := false, narrowed := true }
def CutRisesUptoSaid : Prop := cutRisesUptoRow.holds Try.pinned (OpenSpec.upto cutRisesSpec)

/-- 'eddylaw13.CutMeets', WHERE WHAT IT READS IS OF BULK AT MOST 1048576: true; the input reads as it did. -/
def cutMeetsUptoRow : OpenClaim := { program := "ytomfknblehkocaa", sum := "299e861dd9c19d93688b6eab3fda6ca9268faa9b0153669b6b2d3bc271135b35", func := "eddy/eddylaw13.CutMeets", spec := "cutMeets", recurses := true, loops := true, apart := false, narrowed := true }
def CutMeetsUptoSaid : Prop := cutMeetsUptoRow.holds Try.pinned (OpenSpec.upto cutMeetsSpec)

/-- 'eddylaw13.CutMany', WHERE WHAT IT READS IS OF BULK AT MOST 1048576: true; the input reads as it did. -/
def cutManyUptoRow : OpenClaim := { program := "ytomfknblehkocaa", sum := "299e861dd9c19d93688b6eab3fda6ca9268faa9b0153669b6b2d3bc271135b35", func := "eddy/eddylaw13.CutMany", spec := "cutMany", recurses := true, loops := true, apart := false, narrowed := true }
def CutManyUptoSaid : Prop := cutManyUptoRow.holds Try.pinned (OpenSpec.upto cutManySpec)

end Rows
end Go.Proofs.Ytomfknblehkocaa
