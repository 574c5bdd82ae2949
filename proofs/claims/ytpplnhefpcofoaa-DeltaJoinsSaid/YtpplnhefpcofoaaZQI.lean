/- The reference's Join, plainly: key by key it makes what Join makes. -/
import Derived.Test.YtpplnhefpcofoaaZPJ
import Derived.Test.YtpplnhefpcofoaaZQF
namespace Go.Proofs.Ytpplnhefpcofoaa.PDeltaJoin
set_option linter.unusedVariables false
set_option linter.unusedSimpArgs false
theorem eqB_app (l m : List ByteArray) (u : ByteArray) : eqB (u ∈ l ++ m) = (eqB (u ∈ l) || eqB (u ∈ m)) := by
  by_cases h1 : u ∈ l
  · rw [eqB_true (List.mem_append_left m h1), eqB_true h1]; rfl
  · by_cases h2 : u ∈ m
    · rw [eqB_true (List.mem_append_right l h2), eqB_false h1, eqB_true h2]; rfl
    · rw [eqB_false (fun h => (List.mem_append.1 h).elim h1 h2), eqB_false h1, eqB_false h2]; rfl
/-- What becomes of a key among those that are to go. -/
noncomputable def refGone (es : List S63) (dg eg : List ByteArray) (u : ByteArray) : Option ByteArray := if eqB (inC es u) = true then none else if (eqB (u ∈ dg) || eqB (u ∈ eg)) = true then some u else none
noncomputable def refGones (es : List S63) (dg eg r : List ByteArray) : List ByteArray := r.filterMap (refGone es dg eg)
theorem refGone_key {es : List S63} {dg eg : List ByteArray} (u c : ByteArray) (h : refGone es dg eg u = some c) : kS c = kS u := by
  unfold refGone at h
  split at h
  · cases h
  · split at h
    · cases h; rfl
    · cases h
theorem refGones_snoc (es : List S63) (dg eg r : List ByteArray) (u : ByteArray) : refGones es dg eg (r ++ [u]) = match refGone es dg eg u with | some c => refGones es dg eg r ++ [c] | none => refGones es dg eg r := by
  unfold refGones
  rw [List.filterMap_append]
  cases h : refGone es dg eg u with
  | none => simp [h]
  | some c => simp [h]
theorem refGones_le (es : List S63) (dg eg r : List ByteArray) : (refGones es dg eg r).length ≤ r.length := List.length_filterMap_le _ _
theorem refJoin_cells {ds es : List S63} {dg eg r : List ByteArray} (hd : Ris kC ds) (he : Ris kC es) (hdg : Ris kS dg) (heg : Ris kS eg) (hap : ∀ k ∈ dg, ¬ inC ds k) (hr : Ris kS r) (hm : ∀ k, k ∈ r ↔ inC ds k ∨ inC es k ∨ k ∈ dg ∨ k ∈ eg) :
    refCells ds es (dg ++ eg) r = joinSet (rightsS (mrgS dg eg)) (mrgC ds es) := by
  rw [refCells_eq hd he hr (fun k => by rw [hm k, List.mem_append])]
  refine Ris.ext (rappCells_ris hd he) (joinSet_ris hd he) (fun c => ?_)
  rw [rmem_appCells hd he, mem_joinSet hd he, mem_rightsS hdg heg, List.mem_append]
  constructor
  · rintro (h | ⟨h1, h2, h3⟩)
    · exact .inl h
    · exact .inr ⟨h1, h2, fun h => h3 (.inr h)⟩
  · rintro (h | ⟨h1, h2, h3⟩)
    · exact .inl h
    · exact .inr ⟨h1, h2, fun h => h.elim (fun q => hap _ q ⟨c, h1, rfl⟩) h3⟩
theorem refJoin_gone {ds es : List S63} {dg eg r : List ByteArray} (hdg : Ris kS dg) (heg : Ris kS eg) (hap : ∀ k ∈ eg, ¬ inC es k) (hr : Ris kS r) (hm : ∀ k, k ∈ r ↔ inC ds k ∨ inC es k ∨ k ∈ dg ∨ k ∈ eg) :
    refGones es dg eg r = joinGone es (mrgS dg eg) := by
  refine Ris.ext (Ris.filterMap (key := kS) refGone_key hr) (joinGone_ris hdg heg) (fun k => ?_)
  rw [mem_joinGone hdg heg, refGones, List.mem_filterMap]
  constructor
  · rintro ⟨u, hu, h⟩
    unfold refGone at h
    split at h
    · cases h
    · rename_i h1
      split at h
      · rename_i h2
        cases h
        rw [Bool.or_eq_true] at h2
        rcases h2 with h2 | h2
        · exact .inr ⟨of_eqB h2, fun q => h1 (eqB_true q)⟩
        · exact .inl (of_eqB h2)
      · cases h
  · intro h
    have hn : ¬ inC es k := h.elim (fun q => hap k q) (fun q => q.2)
    refine ⟨k, (hm k).2 (h.elim (fun q => .inr (.inr (.inr q))) (fun q => .inr (.inr (.inl q.1)))), ?_⟩
    unfold refGone
    rw [if_neg (by rw [eqB_false hn]; simp), if_pos]
    rw [Bool.or_eq_true]
    exact h.elim (fun q => .inr (eqB_true q)) (fun q => .inl (eqB_true q.1))
/-- A key that is to go twice. -/
noncomputable def bothK (dg eg : List ByteArray) (u : ByteArray) : Bool := eqB (u ∈ dg) && eqB (u ∈ eg)
/-- What the reference's Join says, behind the two checks. -/
theorem refJoin_both {dn en : Int} {ds es : List S63} {dg eg : List ByteArray} (h1 : chkD dn ds dg = 0) (h2 : chkD en es eg = 0) {u : ByteArray} (hu : bothK dg eg u = true) : joinP dn ds dg en es eg = (0, [], [], 110) := by
  have vx := chkD_ris h1
  have vy := chkD_ris h2
  unfold bothK at hu
  rw [Bool.and_eq_true] at hu
  unfold joinP
  rw [if_neg (by rw [h1]; simp), if_neg (by rw [h2]; simp), if_pos ((anyBoth_iff vx.2.1 vy.2.1).2 ⟨u, of_eqB hu.1, of_eqB hu.2⟩)]
theorem refJoin_done {dn en : Int} {ds es : List S63} {dg eg r : List ByteArray} (h1 : chkD dn ds dg = 0) (h2 : chkD en es eg = 0) (hr : Ris kS r) (hm : ∀ k, k ∈ r ↔ inC ds k ∨ inC es k ∨ k ∈ dg ∨ k ∈ eg) (hn : ∀ u ∈ r, bothK dg eg u = false) :
    joinP dn ds dg en es eg = if 64 < (refCells ds es (dg ++ eg) r).length ∨ 64 < (refGones es dg eg r).length then (0, [], [], 111) else (en, refCells ds es (dg ++ eg) r, refGones es dg eg r, 0) := by
  have vx := chkD_ris h1
  have vy := chkD_ris h2
  rw [refJoin_cells vx.1 vy.1 vx.2.1 vy.2.1 vx.2.2 hr hm, refJoin_gone vx.2.1 vy.2.1 vy.2.2 hr hm]
  unfold joinP
  rw [if_neg (by rw [h1]; simp), if_neg (by rw [h2]; simp), if_neg]
  intro h
  obtain ⟨k, hk, hk2⟩ := (anyBoth_iff vx.2.1 vy.2.1).1 h
  have := hn k ((hm k).2 (.inr (.inr (.inl hk))))
  unfold bothK at this
  rw [eqB_true hk, eqB_true hk2] at this
  cases this
end Go.Proofs.Ytpplnhefpcofoaa.PDeltaJoin
