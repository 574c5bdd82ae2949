/- A map from whole numbers to whole numbers: what it says at each key. -/
import Derived.Maps.OwnOps
import Derived.Maps.Views
namespace Go.Proofs.Ytcbaiplamaopeaa.PPost
open Go Go.Maps Go.ChangeMaps
set_option linter.unusedVariables false
set_option linter.unusedSimpArgs false

abbrev wfI (x : Int) : Prop := (Lit.int .i64 x).wf = true
/-- The block b is a map of at most n entries that says f. -/
def MapIs (P : Program) (k : TypeId) (w : World) (b n : Nat) (f : Int → Int) : Prop :=
  ∃ es, w.ownsMap (H := Unit) P k (plainElem P k) b n (.map es) ∧ ∀ x, wfI x → (DataW.map es : DataW Unit).atKey (.int .i64 x) (.lit (.int .i64 0)) = .lit (.int .i64 (f x))
theorem MapIs.made (P : Program) (k : TypeId) (w : World) : MapIs P k (w.alloc (.map #[] 0)) w.heap.size 0 (fun _ => 0) :=
  ⟨[], World.ownsMap_made w P k _, fun x _ => rfl⟩
theorem MapIs.move {P : Program} {k : TypeId} {w w' : World} {b n : Nat} {f : Int → Int} (h : MapIs P k w b n f) (hb : w'.heap[b]? = w.heap[b]?) : MapIs P k w' b n f := by
  obtain ⟨es, ⟨e, clock, h1, h2, h3, h4⟩, h5⟩ := h
  exact ⟨es, ⟨e, clock, hb.trans h1, h2, h3, h4⟩, h5⟩
theorem MapIs.lt {P : Program} {k : TypeId} {w : World} {b n : Nat} {f : Int → Int} (h : MapIs P k w b n f) : b < w.heap.size := by
  obtain ⟨es, h1, -⟩ := h
  exact h1.lt
theorem MapIs.look {P : Program} {k t : TypeId} {w : World} {b n : Nat} {f : Int → Int} (h : MapIs P k w b n f) (ht : P.underlying t = some (.map k k)) (hk : P.underlying k = some (.int .i64)) (hz : (zeroValue k).run P w = .ok (.int .i64 0) w) (x : Int) (hx : wfI x) :
    (Instr.lookup t (.map (some b)) (.int .i64 x) false).run P w = .ok (.int .i64 (f x)) w := by
  obtain ⟨es, h1, h2⟩ := h
  obtain ⟨c, hrun, hat, -⟩ := h1.lookup_int (int_keyed hk) ht hk hz (keyOf_int_mk hk hx)
  rw [h2 x hx] at hat
  injection hat with hat
  injection hat with _ hat
  rw [hat]
  exact hrun
theorem MapIs.set {P : Program} {k t : TypeId} {w : World} {b n : Nat} {f : Int → Int} (h : MapIs P k w b n f) (ht : P.underlying t = some (.map k k)) (hk : P.underlying k = some (.int .i64)) (hn : n < maxLen) (x v : Int) (hx : wfI x) (hv : wfI v) :
    ∃ w', (Instr.mapUpdate t (.map (some b)) (.int .i64 x) (.int .i64 v)).run P w = .ok () w' ∧ MapIs P k w' b (n + 1) (fun y => if y = x then v else f y) ∧ w.grownBy w' (some b) := by
  obtain ⟨es, h1, h2⟩ := h
  obtain ⟨w', hrun, how, hg⟩ := h1.update (int_keyed hk) ht hn (keyOf_int_mk hk hx) (plainElem_int hk hv)
  refine ⟨w', hrun, ?_, hg⟩
  have hput : ∃ es', (DataW.map es : DataW Unit).put (.int .i64 x) (.lit (.int .i64 v)) = .map es' := ⟨_, rfl⟩
  obtain ⟨es', he⟩ := hput
  rw [he] at how
  refine ⟨es', how, fun y hy => ?_⟩
  rw [← he]
  simp only []
  by_cases hyx : y = x
  · subst hyx
    rw [if_pos rfl]
    exact atKey_put_same ⟨es, rfl⟩ (show WideAt.IsKeyLit (.int .i64 y) from trivial) _ _
  · rw [if_neg hyx]
    rw [atKey_put_other (by intro e; injection e with _ e; exact hyx e)]
    exact h2 y hy
end Go.Proofs.Ytcbaiplamaopeaa.PPost
