/- The reference's Apply, walked. -/
import Derived.Test.YtpplnhefpcofoaaZQD
import Derived.WalkLawsBesides
import Derived.Test.YtpplnhefpcofoaaZPH
namespace Go.Proofs.Ytpplnhefpcofoaa.PDeltaJoin
open Go.RowKit Go.Proofs.YtpplnhefpcofoaaW.PrintWords Go.Proofs.YtpplnhefpcofoaaW.PrintLast
set_option linter.unusedVariables false
set_option linter.unusedSimpArgs false

/-- A cell and whether there is one, answered. -/
def AtAns (r : ByteArray × List S87 × Bool) (w : World) (e : Ending) (w' : World) : Prop :=
  ∃ A c, e = .returned (.tuple #[.agg #[.string r.1, .slice A r.2.1.length c], .bool r.2.2]) ∧ Hid (Kd.R k87 87 w' w.heap.size (fun _ => True) (.slice A r.2.1.length c) r.2.1) ∧ Hid (Below w.heap.size w w')
theorem at40 (l : List S63) (A : Option Addr) (c : Nat) (key : ByteArray) (w : World) (hA : Kd.C k63 w A l.length l) (hc : l.length ≤ c) (hp : partsC l ≤ 100000) :
    Calls Try.prog 40 #[.slice A l.length c, .string key] w fun e w' => AtAns (atP l key) w e w' := by
  obtain ⟨K, hK⟩ := at_some l hp key
  refine (eddyref11_at.calls K A c l key (atP l key).1 (atP l key).2.1 (atP l key).2.2 w hA hc hK).mono ?_
  rintro e w' ⟨v, rfl, hr, hb⟩
  obtain ⟨A', c', hv⟩ := Kd.R_slice hr
  subst hv
  exact ⟨A', c', rfl, Lib.hid hr, Lib.hid hb⟩
/-- Keys, answered. -/
def KeysAns (r : List ByteArray) (w : World) (e : Ending) (w' : World) : Prop := ∃ A c, e = .returned (.slice A r.length c) ∧ Hid (Kd.R Kd.string 9 w' w.heap.size (fun _ => True) (.slice A r.length c) r) ∧ Hid (Below w.heap.size w w')
theorem keys39 (a b : List S63) (c d : List ByteArray) (ha : a.length ≤ 10000) (hb : b.length ≤ 10000) (hc : c.length ≤ 10000) (hd : d.length ≤ 10000) :
    ∃ r, (Ris kS r ∧ ∀ k, k ∈ r ↔ inC a k ∨ inC b k ∨ k ∈ c ∨ k ∈ d) ∧ ∀ (A B C D : Option Addr) (ka kb kc kd : Nat) (w : World), Kd.C k63 w A a.length a → Kd.C k63 w B b.length b → Kd.C Kd.string w C c.length c → Kd.C Kd.string w D d.length d → a.length ≤ ka → b.length ≤ kb → c.length ≤ kc → d.length ≤ kd →
      Calls Try.prog 39 #[.slice A a.length ka, .slice B b.length kb, .slice C c.length kc, .slice D d.length kd] w fun e w' => KeysAns r w e w' := by
  obtain ⟨K, r, hK, h1, h2⟩ := keys_some a b c d ha hb hc hd
  refine ⟨r, ⟨h1, h2⟩, fun A B C D ka kb kc kd w hA hB hC hD la lb lc ld => ?_⟩
  refine (eddyref11_keys.calls K A ka a B kb b C kc c D kd d r w hA la hB lb hC lc hD ld hK).mono ?_
  rintro e w' ⟨v, rfl, hr, hb⟩
  obtain ⟨A', c', hv⟩ := Kd.R_slice hr
  subst hv
  exact ⟨A', c', rfl, Lib.hid hr, Lib.hid hb⟩
theorem atP_has (l : List S63) (key : ByteArray) : (atP l key).2.2 = eqB (inC l key) := by
  unfold atP
  cases h : l.find? (fun c => decide (c.f0 = key)) with
  | none =>
    rw [eqB_false]
    rintro ⟨c, hc, e⟩
    have := List.find?_eq_none.1 h c hc
    simp [e] at this
  | some c =>
    rw [eqB_true]
    have h1 := List.mem_of_find?_eq_some h
    have h2 := List.find?_some h
    exact ⟨c, h1, of_decide_eq_true h2⟩
/-- The cell of that key, of a rising list. -/
theorem atP_cell {l : List S63} (h : Ris kC l) {c : S63} (hc : c ∈ l) : atP l c.f0 = (c.f0, c.f1, true) := by
  unfold atP
  cases hf : l.find? (fun d => decide (d.f0 = c.f0)) with
  | none =>
    have := List.find?_eq_none.1 hf c hc
    simp at this
  | some d =>
    have h1 := List.mem_of_find?_eq_some hf
    have h2 : d.f0 = c.f0 := by have := List.find?_some hf; exact of_decide_eq_true this
    rw [h.one h1 hc h2]
end Go.Proofs.Ytpplnhefpcofoaa.PDeltaJoin

namespace Go.Proofs.Ytpplnhefpcofoaa.PDeltaJoin
set_option linter.unusedVariables false
set_option linter.unusedSimpArgs false
/-! key by key -/
theorem atP_eta {l : List S63} (h : Ris kC l) {u : ByteArray} (hu : inC l u) : ∃ c, c ∈ l ∧ c.f0 = u ∧ (⟨u, (atP l u).2.1⟩ : S63) = c := by
  obtain ⟨c, hc, rfl⟩ := hu
  refine ⟨c, hc, rfl, ?_⟩
  rw [atP_cell h hc]
end Go.Proofs.Ytpplnhefpcofoaa.PDeltaJoin

namespace Go.Proofs.Ytpplnhefpcofoaa.PDeltaJoin
set_option linter.unusedVariables false
set_option linter.unusedSimpArgs false
/-- What becomes of a key: a cell to set, or a key that is gone. -/
noncomputable def refDC (a b : List S63) (u : ByteArray) : Option S63 := if eqB (inC b u) = true then (if (eqB (inC a u) && eqB ((⟨u, (atP a u).2.1⟩ : S63) = ⟨u, (atP b u).2.1⟩)) = true then none else some ⟨u, (atP b u).2.1⟩) else none
noncomputable def refDG (b : List S63) (u : ByteArray) : Option ByteArray := if eqB (inC b u) = true then none else some u
noncomputable def refDCs (a b : List S63) (r : List ByteArray) : List S63 := r.filterMap (refDC a b)
noncomputable def refDGs (b : List S63) (r : List ByteArray) : List ByteArray := r.filterMap (refDG b)
theorem refDC_key {a b : List S63} (u : ByteArray) (c : S63) (h : refDC a b u = some c) : kC c = kS u := by
  unfold refDC at h
  split at h
  · split at h
    · cases h
    · cases h; rfl
  · cases h
theorem refDG_key {b : List S63} (u k : ByteArray) (h : refDG b u = some k) : kS k = kS u := by
  unfold refDG at h
  split at h
  · cases h
  · cases h; rfl
theorem refDCs_snoc (a b : List S63) (r : List ByteArray) (u : ByteArray) : refDCs a b (r ++ [u]) = match refDC a b u with | some c => refDCs a b r ++ [c] | none => refDCs a b r := by
  unfold refDCs
  rw [List.filterMap_append]
  cases h : refDC a b u with
  | none => simp [h]
  | some c => simp [h]
theorem refDGs_snoc (b : List S63) (r : List ByteArray) (u : ByteArray) : refDGs b (r ++ [u]) = match refDG b u with | some c => refDGs b r ++ [c] | none => refDGs b r := by
  unfold refDGs
  rw [List.filterMap_append]
  cases h : refDG b u with
  | none => simp [h]
  | some c => simp [h]
theorem refDCs_le (a b : List S63) (r : List ByteArray) : (refDCs a b r).length ≤ r.length := List.length_filterMap_le _ _
theorem refDGs_le (b : List S63) (r : List ByteArray) : (refDGs b r).length ≤ r.length := List.length_filterMap_le _ _
theorem refDiff_cells {a b : List S63} {r : List ByteArray} (ha : Ris kC a) (hb : Ris kC b) (oa : ∀ c ∈ a, OkC c) (ob : ∀ c ∈ b, OkC c) (hr : Ris kS r) (hm : ∀ k, k ∈ r ↔ inC a k ∨ inC b k) : refDCs a b r = diffSet (mrgC a b) := by
  refine Ris.ext (Ris.filterMap (key := kS) refDC_key hr) (Ris.filterMap diffKeepC_key (mrgC_ris _ a b (Nat.le_refl _) ha hb)) (fun c => ?_)
  rw [mem_diffSet ha hb oa ob c, refDCs, List.mem_filterMap]
  constructor
  · rintro ⟨u, hu, h⟩
    unfold refDC at h
    split at h
    · rename_i h1
      obtain ⟨d, hd, e, e2⟩ := atP_eta hb (of_eqB h1)
      split at h
      · cases h
      · rename_i h2
        rw [e2] at h h2
        cases h
        refine ⟨hd, fun hin => h2 ?_⟩
        rw [Bool.and_eq_true]
        subst e
        exact ⟨eqB_true ⟨c, hin, rfl⟩, eqB_true (by rw [atP_cell ha hin])⟩
    · cases h
  · rintro ⟨h1, h2⟩
    refine ⟨c.f0, (hm _).2 (.inr ⟨c, h1, rfl⟩), ?_⟩
    unfold refDC
    rw [if_pos (eqB_true ⟨c, h1, rfl⟩), atP_cell hb h1, if_neg]
    intro h
    rw [Bool.and_eq_true] at h
    obtain ⟨d, hd, e, e2⟩ := atP_eta ha (of_eqB h.1)
    have := of_eqB h.2
    rw [e2] at this
    exact h2 (by rw [← show d = c from this]; exact hd)
theorem refDiff_gone {a b : List S63} {r : List ByteArray} (ha : Ris kC a) (hb : Ris kC b) (hr : Ris kS r) (hm : ∀ k, k ∈ r ↔ inC a k ∨ inC b k) : refDGs b r = diffGone (mrgC a b) := by
  refine Ris.ext (Ris.filterMap (key := kS) refDG_key hr) (Ris.filterMap diffKeepG_key (mrgC_ris _ a b (Nat.le_refl _) ha hb)) (fun k => ?_)
  rw [mem_diffGone ha hb k, refDGs, List.mem_filterMap]
  constructor
  · rintro ⟨u, hu, h⟩
    unfold refDG at h
    split at h
    · cases h
    · rename_i h1
      cases h
      have hn : ¬ inC b k := fun q => h1 (eqB_true q)
      exact ⟨((hm k).1 hu).resolve_right hn, hn⟩
  · rintro ⟨h1, h2⟩
    refine ⟨k, (hm k).2 (.inl h1), ?_⟩
    unfold refDG
    rw [if_neg (by rw [eqB_false h2]; simp)]
theorem refDiff_done {an bn : Int} {a b : List S63} {r : List ByteArray} (h1 : chkS an a = 0) (h2 : chkS bn b = 0) (hr : Ris kS r) (hm : ∀ k, k ∈ r ↔ inC a k ∨ inC b k) : diffP an a bn b = (bn, refDCs a b r, refDGs b r, 0) := by
  have ha := chkS_ris h1
  have hb := chkS_ris h2
  rw [refDiff_cells ha hb (FitS.ok (x := ⟨an, a⟩) h1) (FitS.ok (x := ⟨bn, b⟩) h2) hr hm, refDiff_gone ha hb hr hm]
  unfold diffP
  rw [if_neg (by rw [h1]; simp), if_neg (by rw [h2]; simp)]
end Go.Proofs.Ytpplnhefpcofoaa.PDeltaJoin

namespace Go.Proofs.Ytpplnhefpcofoaa.PDeltaJoin
open Go.RowKit Go.Proofs.YtpplnhefpcofoaaW.PrintWords Go.Proofs.YtpplnhefpcofoaaW.PrintLast
set_option linter.unusedVariables false
set_option linter.unusedSimpArgs false

theorem atP_fst {l : List S63} {u : ByteArray} (h : inC l u) : (atP l u).1 = u := by
  unfold atP
  cases hf : l.find? (fun c => decide (c.f0 = u)) with
  | none =>
    obtain ⟨c, hc, e⟩ := h
    have := List.find?_eq_none.1 hf c hc
    simp [e] at this
  | some c => rfl
theorem R_slR {α : Type} {d : Kd α} {e base : Nat} {w : World} {ok : Nat → Prop} {v : Value} {xs : List α} (h : Kd.R d e w base ok v xs) : ∃ A m c, v = .slice A m c := by
  obtain ⟨A, c, he⟩ := Kd.R_slice h
  exact ⟨A, _, c, he⟩
end Go.Proofs.Ytpplnhefpcofoaa.PDeltaJoin
