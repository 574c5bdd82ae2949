/- The reference's Apply, plainly: key by key it makes what Apply makes. -/
import Derived.Test.YtpplnhefpcofoaaZQE
namespace Go.Proofs.Ytpplnhefpcofoaa.PDeltaJoin
set_option linter.unusedVariables false
set_option linter.unusedSimpArgs false
theorem rappKeep_key {gone : List ByteArray} (p : MPC) (c : S63) (h : appKeep gone p = some c) : kC c = pkC p := by
  unfold appKeep at h
  unfold pkC kC
  split at h
  · rename_i hr; cases h; rw [if_pos hr]
  · rename_i hr
    split at h
    · cases h
    · cases h; rw [if_neg hr]
theorem rappCells_ris {gone : List ByteArray} {cs set : List S63} (hc : Ris kC cs) (hs : Ris kC set) : Ris kC (appCells gone (mrgC cs set)) := Ris.filterMap rappKeep_key (mrgC_ris _ cs set (Nat.le_refl _) hc hs)
theorem rmem_appCells {gone : List ByteArray} {cs set : List S63} (hc : Ris kC cs) (hs : Ris kC set) (c : S63) : c ∈ appCells gone (mrgC cs set) ↔ c ∈ set ∨ (c ∈ cs ∧ ¬ inC set c.f0 ∧ c.f0 ∉ gone) := by
  unfold appCells
  rw [mrgC_keep hc hs]
  constructor
  · rintro ⟨p, _, hat, e⟩
    unfold appKeep at e
    rcases hat with ⟨h1, h2, _⟩ | ⟨h1, h2, h3, h4⟩
    · rw [if_pos h1] at e; cases e; exact .inl h2
    · rw [if_neg (by rw [h1]; simp)] at e
      split at e
      · cases e
      · rename_i h0
        cases e
        exact .inr ⟨h3, h4, fG_zero.1 ((fG_01 gone p.l.f0).resolve_right h0)⟩
  · rintro (h | ⟨h1, h2, h3⟩)
    · obtain ⟨p, hp, hat, hr, e⟩ := mrgC_hasR hc hs h
      exact ⟨p, hp, hat, by unfold appKeep; rw [if_pos hr, e]⟩
    · obtain ⟨p, hp, hat, hr, hl, e⟩ := mrgC_hasL hc hs h1 h2
      refine ⟨p, hp, hat, ?_⟩
      unfold appKeep
      rw [if_neg (by rw [hr]; simp), e, if_neg (by rw [fG_zero.2 h3]; simp)]
/-! key by key -/
/-- What becomes of a key. -/
noncomputable def refKeep (cs set : List S63) (gone : List ByteArray) (u : ByteArray) : Option S63 := if eqB (inC set u) = true then some ⟨u, (atP set u).2.1⟩ else if eqB (u ∈ gone) = true then none else some ⟨u, (atP cs u).2.1⟩
noncomputable def refCells (cs set : List S63) (gone : List ByteArray) (r : List ByteArray) : List S63 := r.filterMap (refKeep cs set gone)
theorem refKeep_key {cs set : List S63} {gone : List ByteArray} (u : ByteArray) (c : S63) (h : refKeep cs set gone u = some c) : kC c = kS u := by
  unfold refKeep at h
  split at h
  · cases h; rfl
  · split at h
    · cases h
    · cases h; rfl
theorem atP_eta {l : List S63} (h : Ris kC l) {u : ByteArray} (hu : inC l u) : ∃ c, c ∈ l ∧ c.f0 = u ∧ (⟨u, (atP l u).2.1⟩ : S63) = c := by
  obtain ⟨c, hc, rfl⟩ := hu
  refine ⟨c, hc, rfl, ?_⟩
  rw [atP_cell h hc]
theorem refCells_eq {cs set : List S63} {gone r : List ByteArray} (hc : Ris kC cs) (hs : Ris kC set) (hr : Ris kS r) (hm : ∀ k, k ∈ r ↔ inC cs k ∨ inC set k ∨ k ∈ gone) : refCells cs set gone r = appCells gone (mrgC cs set) := by
  refine Ris.ext (Ris.filterMap (key := kS) refKeep_key hr) (rappCells_ris hc hs) (fun c => ?_)
  rw [rmem_appCells hc hs, refCells, List.mem_filterMap]
  constructor
  · rintro ⟨u, hu, h⟩
    unfold refKeep at h
    split at h
    · rename_i h1
      obtain ⟨d, hd, e, e2⟩ := atP_eta hs (of_eqB h1)
      rw [e2] at h
      cases h
      exact .inl hd
    · rename_i h1
      split at h
      · cases h
      · rename_i h2
        have hin : inC cs u := by
          rcases (hm u).1 hu with q | q | q
          · exact q
          · exact absurd (eqB_true q) h1
          · exact absurd (eqB_true q) h2
        obtain ⟨d, hd, e, e2⟩ := atP_eta hc hin
        rw [e2] at h
        cases h
        subst e
        exact .inr ⟨hd, fun q => h1 (eqB_true q), fun q => h2 (eqB_true q)⟩
  · rintro (h | ⟨h1, h2, h3⟩)
    · refine ⟨c.f0, (hm _).2 (.inr (.inl ⟨c, h, rfl⟩)), ?_⟩
      unfold refKeep
      rw [if_pos (eqB_true ⟨c, h, rfl⟩), atP_cell hs h]
    · refine ⟨c.f0, (hm _).2 (.inl ⟨c, h1, rfl⟩), ?_⟩
      unfold refKeep
      rw [eqB_false h2, eqB_false h3, atP_cell hc h1]
      rfl
theorem refCells_snoc (cs set : List S63) (gone r : List ByteArray) (u : ByteArray) : refCells cs set gone (r ++ [u]) = match refKeep cs set gone u with | some c => refCells cs set gone r ++ [c] | none => refCells cs set gone r := by
  unfold refCells
  rw [List.filterMap_append]
  cases h : refKeep cs set gone u with
  | none => simp [h]
  | some c => simp [h]
theorem refCells_le (cs set : List S63) (gone r : List ByteArray) : (refCells cs set gone r).length ≤ r.length := List.length_filterMap_le _ _
end Go.Proofs.Ytpplnhefpcofoaa.PDeltaJoin
