/- A map from strings to whole numbers: what it says at each key. -/
import Derived.Test.YtpplnhefpcofoaaZIC
import Derived.Maps.OwnOps
import Derived.Maps.Views
import Derived.Maps.Keyed
import Derived.StringKeys
namespace Go.Proofs.Ytpplnhefpcofoaa.PDeltaJoin
open Go.RowKit Go.Proofs.YtpplnhefpcofoaaW.PrintWords Go.Proofs.YtpplnhefpcofoaaW.PrintLast
set_option linter.unusedVariables false
set_option linter.unusedSimpArgs false
theorem at_str {w : World} {A : Option Addr} {n : Nat} {xs : List ByteArray} (h : Kd.C Kd.string w A n xs) (k : Nat) (hk : k < n) : ∃ ad, A = some ad ∧ w.cell? (ad.add k) = some (.string (xs.getD k ⟨#[]⟩)) := by
  obtain ⟨ad, c, e, _, hK, hc⟩ := Kd.C_get h (⟨#[]⟩ : ByteArray) (k : Int) (by omega) (by omega)
  rw [Int.toNat_natCast] at hc hK
  refine ⟨ad, e, ?_⟩
  have h0 := hc 0 (.string (xs.getD k ⟨#[]⟩)) (by rw [show c = [Value.string (xs.getD k ⟨#[]⟩)] from hK]; rfl)
  have h1 : Kd.string.sz = 1 := rfl
  rw [h1, Nat.mul_one, Nat.add_zero] at h0
  exact h0
end Go.Proofs.Ytpplnhefpcofoaa.PDeltaJoin

namespace Go.Proofs.Ytpplnhefpcofoaa.PDeltaJoin
open Go Go.Maps Go.ChangeMaps
set_option linter.unusedVariables false
set_option linter.unusedSimpArgs false
/-- The block b is a map of at most n entries that says f. -/
def MapS (P : Program) (k e : TypeId) (w : World) (b n : Nat) (f : ByteArray → Int) : Prop :=
  ∃ es, w.ownsMap (H := Unit) P k (plainElem P e) b n (.map es) ∧ ∀ x : ByteArray, x.size ≤ maxLen → (DataW.map es : DataW Unit).atKey (.string x.data.toList) (.lit (.int .i64 0)) = .lit (.int .i64 (f x))
theorem MapS.made (P : Program) (k e : TypeId) (w : World) : MapS P k e (w.alloc (.map #[] 0)) w.heap.size 0 (fun _ => 0) :=
  ⟨[], World.ownsMap_made w P k _, fun x _ => rfl⟩
section
variable {P : Program} {k e t : TypeId} {w w' : World} {b n : Nat} {f : ByteArray → Int}
theorem MapS.move (h : MapS P k e w b n f) (hb : w'.heap[b]? = w.heap[b]?) : MapS P k e w' b n f := by
  obtain ⟨es, ⟨e, clock, h1, h2, h3, h4⟩, h5⟩ := h
  exact ⟨es, ⟨e, clock, hb.trans h1, h2, h3, h4⟩, h5⟩
theorem MapS.lt (h : MapS P k e w b n f) : b < w.heap.size := by
  obtain ⟨es, h1, -⟩ := h
  exact h1.lt
theorem MapS.look (h : MapS P k e w b n f) (ht : P.underlying t = some (.map k e)) (hk : P.underlying k = some .string) (he : P.underlying e = some (.int .i64)) (hz : (zeroValue e).run P w = .ok (.int .i64 0) w) (x : ByteArray) (hx : x.size ≤ maxLen) :
    (Instr.lookup t (.map (some b)) (.string x) false).run P w = .ok (.int .i64 (f x)) w := by
  obtain ⟨es, h1, h2⟩ := h
  obtain ⟨c, hrun, hat, -⟩ := h1.lookup_int (string_keyed hk) ht he hz (Go.WideMaps.keyOf_string_mk hk hx)
  rw [h2 x hx] at hat
  injection hat with hat
  injection hat with _ hat
  rw [hat]
  exact hrun
theorem MapS.set (h : MapS P k e w b n f) (ht : P.underlying t = some (.map k e)) (hk : P.underlying k = some .string) (he : P.underlying e = some (.int .i64)) (hn : n < maxLen) (x : ByteArray) (v : Int) (hx : x.size ≤ maxLen) (hv : (Lit.int .i64 v).wf = true) :
    ∃ w', (Instr.mapUpdate t (.map (some b)) (.string x) (.int .i64 v)).run P w = .ok () w' ∧ MapS P k e w' b (n + 1) (fun y => if y = x then v else f y) ∧ w.grownBy w' (some b) := by
  obtain ⟨es, h1, h2⟩ := h
  obtain ⟨w', hrun, how, hg⟩ := h1.update (string_keyed hk) ht hn (Go.WideMaps.keyOf_string_mk hk hx) (plainElem_int he hv)
  refine ⟨w', hrun, ?_, hg⟩
  have hput : ∃ es', (DataW.map es : DataW Unit).put (.string x.data.toList) (.lit (.int .i64 v)) = .map es' := ⟨_, rfl⟩
  obtain ⟨es', heq⟩ := hput
  rw [heq] at how
  refine ⟨es', how, fun y hy => ?_⟩
  rw [← heq]
  simp only []
  by_cases hyx : y = x
  · subst hyx
    rw [if_pos rfl]
    exact atKey_put_same ⟨es, rfl⟩ (show WideAt.IsKeyLit (.string y.data.toList) from trivial) _ _
  · rw [if_neg hyx]
    rw [atKey_put_other (by
      intro e
      injection e with e
      apply hyx
      obtain ⟨⟨a⟩⟩ := y
      obtain ⟨⟨c⟩⟩ := x
      simp at e
      rw [e])]
    exact h2 y hy
end
end Go.Proofs.Ytpplnhefpcofoaa.PDeltaJoin
