/- Mark: what it does to the book. -/
import Derived.Test.YtomfknblehkocaaBL
namespace Go.Proofs.Ytomfknblehkocaa.C
open Go.RowKit Go.Proofs.YtomfknblehkocaaW.PrintWords Go.Proofs.YtomfknblehkocaaW.PrintLast
set_option linter.unusedVariables false
set_option linter.unusedSimpArgs false

def Bk.freshed (b : Bk) (id : Int) : Bk := ⟨b.mode, b.back, id, List.replicate b.ports.length 0, List.replicate b.ports.length [], false, false, ⟨0, []⟩, []⟩
def Bk.markE (b : Bk) (port id : Int) : Int := if b.knows port = false then 132 else if id < 1 ∨ 9999 < id then 133 else if b.held port = true then 134 else 0
def Bk.begun (b : Bk) (id : Int) : Bk := if b.now < id then b.freshed id else b
/-- Is a port closed by this Mark? -/
def Bk.closes (b : Bk) (port id : Int) : Bool := b.markE port id == 0 && !decide (id < b.now) && !((b.begun id).ports.getD port.toNat 0 == 1)
def Bk.mark (b : Bk) (port id : Int) (x : List S45) (s : S34) (y : List S45) : Bk := if b.closes port id = true then (b.begun id).close port.toNat x s y else b
def Bk.markC (b : Bk) (port id : Int) (x : List S45) (s : S34) (y : List S45) : Bool := b.closes port id && (b.mark port id x s y).copied && !(b.begun id).copied
section
variable {w : World} {base : Nat} {own : Nat → Nat} {g : Nat} {b : Bk} {gp gl : Nat} {vc vd : Value} {lv : List Value}
def ownF (own : Nat → Nat) (B p l : Nat) : Nat → Nat := fun k => if k < B then own k else if k = p then 2 else if k = l then 3 else 0
theorem R_nils {α : Type} (d : Kd α) (e : Nat) (w : World) (base : Nat) (ok : Nat → Prop) (n i : Nat) : d.R e w base ok ((List.replicate n (.slice none 0 0)).getD i (.slice none 0 0)) ((List.replicate n ([] : List α)).getD i []) := by
  have h1 : (List.replicate n (Value.slice none 0 0)).getD i (.slice none 0 0) = .slice none 0 0 := by
    rw [List.getD_eq_getElem?_getD, List.getElem?_replicate]; split <;> rfl
  have h2 : (List.replicate n ([] : List α)).getD i [] = [] := by
    rw [List.getD_eq_getElem?_getD, List.getElem?_replicate]; split <;> rfl
  rw [h1, h2]
  exact Kd.R_nil _ _ _ _ _
/-- A new snapshot begins. -/
theorem BkAt.freshd (h : BkAt w base own g b gp gl vc vd lv) (hbase : base ≤ w.heap.size) (id : Int) {w' W : World} {p l : Nat} (hb : Below w.heap.size w w') (hp : w.heap.size ≤ p) (hl : w.heap.size ≤ l) (hpl : p ≠ l)
    (h1 : w'.heap[p]? = some (.cells (List.replicate b.ports.length (.int .i64 0)).toArray 3 (0, 0))) (h2 : w'.heap[l]? = some (.cells (List.replicate b.ports.length (.slice none 0 0)).toArray 35 (0, 0)))
    (hg : W.heap[g]? = some (.cells #[.int .i64 b.mode, .int .i64 b.back, .int .i64 id, .slice (some ⟨p, 0, none⟩) b.ports.length b.ports.length, .slice (some ⟨l, 0, none⟩) b.ports.length b.ports.length, .bool false, .bool false, .int .i64 0, .slice none 0 0, .slice none 0 0] 78 (0, 0)))
    (hO : Only g w' W) (hs : W.heap.size = w'.heap.size) :
    BkAt W base (ownF own w.heap.size p l) g (b.freshed id) p l (.slice none 0 0) (.slice none 0 0) (List.replicate b.ports.length (.slice none 0 0)) ∧ Upd own w (ownF own w.heap.size p l) W := by
  obtain ⟨l1, l2, l3⟩ := h.lts
  have hW : ∀ k, k < w'.heap.size → k ≠ g → W.heap[k]? = w'.heap[k]? := hO.block
  have hn : (b.freshed id).ports.length = b.ports.length := by unfold Bk.freshed; simp
  refine ⟨⟨?_, ?_, ?_, by rw [hn]; simp, by unfold Bk.freshed; simp, by rw [hn]; exact h.lp, fun i hi => R_nils _ _ _ _ _ _ _, Kd.R_nil _ _ _ _ _, Kd.R_nil _ _ _ _ _, ?_, ?_, ?_, ?_⟩, ?_⟩
  · rw [hn]; exact hg
  · have := (hW p (blk_lt h1) (by omega)).trans h1
    unfold Bk.freshed
    simpa [nums] using this
  · exact (hW l (blk_lt h2) (by omega)).trans h2
  · unfold ownF; rw [if_pos l1]; exact h.og
  · unfold ownF; rw [if_neg (by omega), if_pos rfl]
  · unfold ownF; rw [if_neg (by omega), if_neg (by omega), if_pos rfl]
  · intro k hk
    unfold ownF at hk
    rw [hs]
    by_cases hk1 : k < w.heap.size
    · rw [if_pos hk1] at hk
      exact ⟨(h.lo k hk).1, Nat.lt_of_lt_of_le hk1 hb.size⟩
    · rw [if_neg hk1] at hk
      by_cases hk2 : k = p
      · subst hk2; exact ⟨by omega, blk_lt h1⟩
      · rw [if_neg hk2] at hk
        by_cases hk3 : k = l
        · subst hk3; exact ⟨by omega, blk_lt h2⟩
        · rw [if_neg hk3] at hk; exact absurd rfl hk
  · refine ⟨hO.os.trans hb.os, hO.tape.trans hb.tape, hO.output.trans hb.output, by rw [hs]; exact hb.size, fun k hk h0 => ?_, fun k hk h0 => ?_⟩
    · unfold ownF; rw [if_pos hk]; exact h0
    · exact (hW k (Nat.lt_of_lt_of_le hk hb.size) (fun e => by have := h.og; rw [← e] at this; omega)).trans (hb.block k hk)
end
end Go.Proofs.Ytomfknblehkocaa.C
