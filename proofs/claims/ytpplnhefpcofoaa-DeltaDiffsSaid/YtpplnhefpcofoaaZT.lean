/- Tools over the kinds of this seat: parts of a value counted, small lemmas on worlds and rows. -/
import Derived.Test.YtpplnhefpcofoaaProg
import Derived.Test.YtpplnhefpcofoaaZXB
import Derived.WalkKit
import Derived.WalkSpells
import Derived.WalkLawsBesides
import Derived.KernelRfl
import Derived.Lib.Hide
import Derived.Deep.LoopGhost
import Derived.Deep.DeepCutAuto
import Derived.Deep.CutBlock
import Derived.Deep.QuietTactic
import Derived.BigQuiet
import Derived.Deep.RegionHeld3
import Derived.Deep.RegionLaw
namespace Go.Proofs.Ytpplnhefpcofoaa.PDeltaJoin
theorem info63' : (Try.prog.info? 63).map (fun i => (i.zero, i.size, i.bytes)) = some (some (.agg #[(.string ⟨#[]⟩), (.slice none 0 0)]), 2, 40) := by kernel_rfl
end Go.Proofs.Ytpplnhefpcofoaa.PDeltaJoin

namespace Go.Proofs.Ytpplnhefpcofoaa.PDeltaJoin
open Go.RowKit Go.Proofs.YtpplnhefpcofoaaW.PrintWords Go.Proofs.YtpplnhefpcofoaaW.PrintLast
set_option linter.unusedVariables false

theorem S87.size_mem {x y : S87} (h : y ∈ x.f3) : SizeOf.sizeOf y < SizeOf.sizeOf x := by
  have := List.sizeOf_lt_of_mem h
  cases x
  simp at this ⊢
  omega
/-- How many parts hang below a value. -/
def S87.parts (x : S87) : Nat := x.f3.length + (x.f3.attach.map fun y => S87.parts y.1).sum
termination_by SizeOf.sizeOf x
decreasing_by exact S87.size_mem y.2
def partsV (l : List S87) : Nat := l.length + (l.map S87.parts).sum
theorem S87.parts_eq (x : S87) : x.parts = partsV x.f3 := by
  rw [S87.parts, partsV]
  congr 2
  rw [List.attach_map_val]
theorem le_sum_of_mem : ∀ {l : List Nat} {n : Nat}, n ∈ l → n ≤ l.sum
  | a :: l, n, h => by
    rcases List.mem_cons.1 h with rfl | h
    · simp
    · have := le_sum_of_mem h; simp; omega
theorem partsV_len (l : List S87) : l.length ≤ partsV l := by unfold partsV; omega
theorem partsV_mem {l : List S87} {y : S87} (h : y ∈ l) : partsV y.f3 ≤ partsV l := by
  have := le_sum_of_mem (List.mem_map_of_mem (f := S87.parts) h)
  rw [S87.parts_eq] at this
  unfold partsV at this ⊢
  omega
/-- How many parts cells have. -/
def partsC (l : List S63) : Nat := l.length + (l.map fun c => partsV c.f1).sum
theorem partsC_len (l : List S63) : l.length ≤ partsC l := by unfold partsC; omega
theorem partsC_mem {l : List S63} {y : S63} (h : y ∈ l) : partsV y.f1 ≤ partsC l := by
  have := le_sum_of_mem (List.mem_map_of_mem (f := fun c : S63 => partsV c.f1) h)
  unfold partsC
  omega
/-- The element at a place of a row: it is one of the row; the first places, one more. -/
theorem getD_mem {α : Type} (l : List α) (z : α) (k : Nat) (h : k < l.length) : l.getD k z ∈ l := by
  rw [List.getD_eq_getElem?_getD, List.getElem?_eq_getElem h]
  exact List.getElem_mem _
theorem take_getD {α : Type} (l : List α) (z : α) (k : Nat) (h : k < l.length) : l.take (k + 1) = l.take k ++ [l.getD k z] := by
  rw [List.take_succ_eq_append_getElem h, List.getD_eq_getElem?_getD, List.getElem?_eq_getElem h]
  rfl
theorem blk_at {w : World} {g : Nat} {t : TypeId} {cs : Array Value} (h : w.heap[g]? = some (.cells cs t (0, 0))) (i : Nat) {u : Value} (hu : cs[i]? = some u) : w.cell? ⟨g, i, none⟩ = some u := (blk_cell h i).trans hu
theorem R_above {α : Type} {d : Kd α} {e base : Nat} {ok : Nat → Prop} {w w1 : World} {v : Value} {xs : List α} (h : d.R e w base ok v xs) (hm : ∀ k, base ≤ k → k < w.heap.size → w1.heap[k]? = w.heap[k]?) : d.R e w1 base ok v xs :=
  Kd.R_mono (Kd.R_move (Kd.R_bound h) (fun k hk => hm k hk.2.1 hk.2.2.1)) (fun _ hk => hk.1)
/-- A store into a block below the row's base. -/
theorem R_low {α : Type} {d : Kd α} {e base : Nat} {ok : Nat → Prop} {w : World} {v : Value} {xs : List α} (h : d.R e w base ok v xs) {p : Addr} (hp : p.block < base) (u : Value) : d.R e (w.setCell p u) base ok v xs :=
  R_above h (fun k hk _ => Below.heap_setCell _ _ _ _ (by omega))
end Go.Proofs.Ytpplnhefpcofoaa.PDeltaJoin
