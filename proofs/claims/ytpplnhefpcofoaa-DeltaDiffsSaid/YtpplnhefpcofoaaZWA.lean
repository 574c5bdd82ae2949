/- assoc, walked. -/
import Derived.Test.YtpplnhefpcofoaaZCF
import Derived.Laws.Rows
import Derived.Test.YtpplnhefpcofoaaZIS
import Derived.Test.YtpplnhefpcofoaaZVA
import Derived.Test.YtpplnhefpcofoaaZCT
namespace Go.Proofs.Ytpplnhefpcofoaa.PDeltaJoin
open Go.RowKit Go.Proofs.YtpplnhefpcofoaaW.PrintWords Go.Proofs.YtpplnhefpcofoaaW.PrintLast
set_option linter.unusedVariables false
set_option linter.unusedSimpArgs false
theorem Rnd.map {L : Nat} {X : Nat → Prop} {W W1 : World} {b : Nat} (hg : W.grownBy W1 (some b)) (hx : X b) (hb : b < L) (hL : L ≤ W.heap.size) : Rnd L X W W1 :=
  ⟨hg.os, hg.tape, hg.output, hg.size, fun k hk hxk => by
    exact hg.block k (by omega) (fun e => by injection e with e; exact hxk (by rw [e]; exact hx)), fun k o hk ho _ => (hg.block k (Array.getElem?_eq_some_iff.1 ho).1 (fun e => by injection e with e; omega)).trans ho⟩
end Go.Proofs.Ytpplnhefpcofoaa.PDeltaJoin

namespace Go.Proofs.Ytpplnhefpcofoaa.PDeltaJoin
open Go.RowKit Go.Proofs.YtpplnhefpcofoaaW.PrintWords Go.Proofs.YtpplnhefpcofoaaW.PrintLast
set_option linter.unusedVariables false
set_option linter.unusedSimpArgs false
end Go.Proofs.Ytpplnhefpcofoaa.PDeltaJoin

namespace Go.Proofs.Ytpplnhefpcofoaa.PDeltaJoin
open Go.RowKit Go.Proofs.YtpplnhefpcofoaaW.PrintWords Go.Proofs.YtpplnhefpcofoaaW.PrintLast
set_option linter.unusedVariables false
set_option linter.unusedSimpArgs false
end Go.Proofs.Ytpplnhefpcofoaa.PDeltaJoin

namespace Go.Proofs.Ytpplnhefpcofoaa.PDeltaJoin
open Go.RowKit Go.Proofs.YtpplnhefpcofoaaW.PrintWords Go.Proofs.YtpplnhefpcofoaaW.PrintLast
set_option linter.unusedVariables false
set_option linter.unusedSimpArgs false

def anyBoth (ps : List MPS) : Bool := ps.any fun p => p.isL && p.isR
def joinKeepG (set : List S63) (p : MPS) : Option ByteArray := if p.isR = true then some p.r else if fS set p.l = 0 then some p.l else none
def joinGone (set : List S63) (ps : List MPS) : List ByteArray := ps.filterMap (joinKeepG set)
/-- The keys that the second list gives, so far. -/
def rightsS (ps : List MPS) : List ByteArray := ps.filterMap fun p => if p.isR = true then some p.r else none
def joinKeepC (gone : List ByteArray) (p : MPC) : Option S63 := if p.isR = true then some p.r else if fG gone p.l.f0 = 0 then some p.l else none
def joinSet (gone : List ByteArray) (ps : List MPC) : List S63 := ps.filterMap (joinKeepC gone)
def joinKeepF (f : ByteArray → Int) (p : MPC) : Option S63 := if p.isR = true then some p.r else if f p.l.f0 = 0 then some p.l else none
def joinSetF (f : ByteArray → Int) (ps : List MPC) : List S63 := ps.filterMap (joinKeepF f)
/-- What Join answers: number, cells, keys that are gone, the error. -/
def joinP (dn : Int) (ds : List S63) (dg : List ByteArray) (en : Int) (es : List S63) (eg : List ByteArray) : Int × List S63 × List ByteArray × Int :=
  if chkD dn ds dg ≠ 0 then (0, [], [], chkD dn ds dg) else if chkD en es eg ≠ 0 then (0, [], [], chkD en es eg)
  else if anyBoth (mrgS dg eg) = true then (0, [], [], 110)
  else if 64 < (joinSet (rightsS (mrgS dg eg)) (mrgC ds es)).length ∨ 64 < (joinGone es (mrgS dg eg)).length then (0, [], [], 111)
  else (en, joinSet (rightsS (mrgS dg eg)) (mrgC ds es), joinGone es (mrgS dg eg), 0)
def DAns (r : Int × List S63 × List ByteArray × Int) (w : World) (e : Ending) (w' : World) : Prop :=
  ∃ vs vg, e = .returned (.tuple #[.agg #[.int .i64 r.1, vs, vg], .int .i64 r.2.2.2]) ∧ Hid (Kd.R k63 63 w' w.heap.size (fun _ => True) vs r.2.1) ∧ Hid (Kd.R Kd.string 9 w' w.heap.size (fun _ => True) vg r.2.2.1) ∧ Hid (Below w.heap.size w w')
theorem info9 : (Try.prog.info? 9).map (fun i => (i.zero, i.size, i.bytes)) = some (some (.string ⟨#[]⟩), 1, 16) := by kernel_rfl
/-- Between two rounds of the first loop. -/
structure IJ1 (w : World) (L g0 g1 g2 g3 bj bs bg ms mg : Nat) (en : Int) (D0 E0 : Array Value) (es : List S63) (xs : List MPS) (W : World) : Prop where
  hb : Below w.heap.size w W
  sz : L ≤ W.heap.size
  hj : ∃ vg, W.heap[bj]? = some (.cells #[.int .i64 en, .slice none 0 0, vg] 27 (0, 0)) ∧ Kd.R Kd.string 9 W L (fun _ => True) vg (joinGone es xs)
  mgm : ∃ k, k ≤ xs.length ∧ MapS Try.prog 9 3 W mg k (fG (rightsS xs))
  msm : MapS Try.prog 9 3 W ms es.length (fS es)
  bsb : W.heap[bs]? = some (.cells #[.map (some ms)] 65 (0, 0))
  bgb : W.heap[bg]? = some (.cells #[.map (some mg)] 65 (0, 0))
  h0 : W.heap[g0]? = some (.cells D0 27 (0, 0))
  h1 : W.heap[g1]? = some (.cells E0 27 (0, 0))
  h2 : W.heap[g2]? = some (.cells #[.int .i64 0, .slice none 0 0, .slice none 0 0] 27 (0, 0))
  h3 : W.heap[g3]? = some (.cells #[.int .i64 0] 32 (0, 0))
  nb : anyBoth xs = false
theorem IJ1.turn {w : World} {L g0 g1 g2 g3 bj bs bg ms mg : Nat} {en : Int} {D0 E0 : Array Value} {es : List S63} {xs : List MPS} {W W' : World} (hL : w.heap.size ≤ L) (h1 : mg < L) (h2 : ms < L) (ht : Turn L W W') (h : IJ1 w L g0 g1 g2 g3 bj bs bg ms mg en D0 E0 es xs W) : IJ1 w L g0 g1 g2 g3 bj bs bg ms mg en D0 E0 es xs W' := by
  obtain ⟨a1, a2, ⟨vg, a3, a4⟩, ⟨k, a5, a6⟩, a7, a8, a9, b0, b1, b2, b3, b4⟩ := h
  exact ⟨Below.turn a1 ht hL, Nat.le_trans a2 ht.size, ⟨vg, ht.blk a3, R_turn a4 ht⟩, ⟨k, a5, a6.turn ht h1⟩, a7.turn ht h2, ht.blk a8, ht.blk a9, ht.blk b0, ht.blk b1, ht.blk b2, ht.blk b3, b4⟩
/-- A key in both lists: the error is told. -/
structure IX1 (w : World) (g2 g3 : Nat) (ps : List MPS) (W : World) : Prop where
  hb : Below w.heap.size w W
  h2 : W.heap[g2]? = some (.cells #[.int .i64 0, .slice none 0 0, .slice none 0 0] 27 (0, 0))
  h3 : W.heap[g3]? = some (.cells #[.int .i64 110] 32 (0, 0))
  yes : anyBoth ps = true
theorem IX1.turn {w : World} {L g2 g3 : Nat} {ps : List MPS} {W W' : World} (hL : w.heap.size ≤ L) (ht : Turn L W W') (h : IX1 w g2 g3 ps W) : IX1 w g2 g3 ps W' := ⟨Below.turn h.hb ht hL, ht.blk h.h2, ht.blk h.h3, h.yes⟩
/-- Between two rounds of the second loop. -/
structure IJ2 (w : World) (L L1 D g2 g3 bj bg mg : Nat) (en : Int) (vg : Value) (G : List ByteArray) (f : ByteArray → Int) (k : Nat) (xs : List MPC) (W : World) : Prop where
  hb : Below w.heap.size w W
  sz : L ≤ W.heap.size
  hj : ∃ vs, W.heap[bj]? = some (.cells #[.int .i64 en, vs, vg] 27 (0, 0)) ∧ Kd.R k63 63 W L (fun _ => True) vs (joinSetF f xs)
  gr : Kd.R Kd.string 9 W L1 (fun _ => True) vg G
  mgm : MapS Try.prog 9 3 W mg k f
  bgb : W.heap[bg]? = some (.cells #[.map (some mg)] 65 (0, 0))
  h2 : W.heap[g2]? = some (.cells #[.int .i64 0, .slice none 0 0, .slice none 0 0] 27 (0, 0))
  h3 : W.heap[g3]? = some (.cells #[.int .i64 0] 32 (0, 0))
  hd : W.heap[D]? = some (.deferred (some []))
theorem IJ2.turn {w : World} {L L1 D g2 g3 bj bg mg : Nat} {en : Int} {vg : Value} {G : List ByteArray} {f : ByteArray → Int} {k : Nat} {xs : List MPC} {W W' : World} (hL : w.heap.size ≤ L) (h1 : mg < L) (h2 : D < L) (ht : Turn L W W') (h : IJ2 w L L1 D g2 g3 bj bg mg en vg G f k xs W) : IJ2 w L L1 D g2 g3 bj bg mg en vg G f k xs W' := by
  obtain ⟨a1, a2, ⟨vs, a3, a4⟩, a5, a6, a7, a8, a9, b1⟩ := h
  exact ⟨Below.turn a1 ht hL, Nat.le_trans a2 ht.size, ⟨vs, ht.blk a3, R_turn a4 ht⟩, R_turn a5 ht, a6.turn ht h1, ht.blk a7, ht.blk a8, ht.blk a9, (ht.low D h2 (Array.getElem?_eq_some_iff.1 b1).1).trans b1⟩
theorem filterMap_snoc {α β : Type} (f : α → Option β) (xs : List α) (x : α) : (xs ++ [x]).filterMap f = match f x with | none => xs.filterMap f | some c => xs.filterMap f ++ [c] := by
  rw [List.filterMap_append]
  cases h : f x with
  | none => simp [List.filterMap_cons, h]
  | some c => simp [List.filterMap_cons, h]
end Go.Proofs.Ytpplnhefpcofoaa.PDeltaJoin

namespace Go.Proofs.Ytpplnhefpcofoaa.PDeltaJoin
open Go.RowKit Go.Proofs.YtpplnhefpcofoaaW.PrintWords Go.Proofs.YtpplnhefpcofoaaW.PrintLast
set_option linter.unusedVariables false
set_option linter.unusedSimpArgs false

def joinD (x y : S27) : S27 := ⟨(joinP x.f0 x.f1 x.f2 y.f0 y.f1 y.f2).1, (joinP x.f0 x.f1 x.f2 y.f0 y.f1 y.f2).2.1, (joinP x.f0 x.f1 x.f2 y.f0 y.f1 y.f2).2.2.1⟩
def joinE (x y : S27) : Int := (joinP x.f0 x.f1 x.f2 y.f0 y.f1 y.f2).2.2.2
/-- A delta and a number, answered: its lists may be read from here on. -/
def DD (z : S27) (m : Int) (w : World) (e : Ending) (w' : World) : Prop :=
  ∃ A c B k, e = .returned (.tuple #[.agg #[.int .i64 z.f0, .slice A z.f1.length c, .slice B z.f2.length k], .int .i64 m]) ∧ Hid (Kd.C k63 w' A z.f1.length z.f1) ∧ Hid (Kd.C Kd.string w' B z.f2.length z.f2) ∧ Hid (Below w.heap.size w w') ∧ Hid (z.f1.length ≤ c ∧ z.f2.length ≤ k)
theorem DAns.dd {r : Int × List S63 × List ByteArray × Int} {w w' : World} {e : Ending} (h : DAns r w e w') : DD ⟨r.1, r.2.1, r.2.2.1⟩ r.2.2.2 w e w' := by
  obtain ⟨vs, vg, rfl, h1, h2, h3⟩ := h
  obtain ⟨A, c, rfl, l1, C1⟩ := Kd.R_reads h1.out
  obtain ⟨B, k, rfl, l2, C2⟩ := Kd.R_reads h2.out
  exact ⟨A, c, B, k, rfl, Lib.hid C1, Lib.hid C2, h3, Lib.hid ⟨l1, l2⟩⟩
end Go.Proofs.Ytpplnhefpcofoaa.PDeltaJoin
