/- The reference's Apply, plainly: key by key it makes what Apply makes. -/
import Derived.Test.YtpplnhefpcofoaaQE
namespace Go.Proofs.Ytpplnhefpcofoaa.PDeltaJoin
set_option linter.unusedVariables false
set_option linter.unusedSimpArgs false
theorem rappKeep_key {gone : List ByteArray} (p : MPC) (c : S63) (h : appKeep gone p = some c) : kC c = pkC p := by
  unfold appKeep at h
  unfold pkC kC
  split at h
  · rename_i hr; cases h; rw [if_pos hr]
  · rename_i hr
    split at h
    · cases h
    · cases h; rw [if_neg hr]
theorem rappCells_ris {gone : List ByteArray} {cs set : List S63} (hc : Ris kC cs) (hs : Ris kC set) : Ris kC (appCells gone (mrgC cs set)) := Ris.filterMap rappKeep_key (mrgC_ris _ cs set (Nat.le_refl _) hc hs)
theorem rmem_appCells {gone : List ByteArray} {cs set : List S63} (hc : Ris kC cs) (hs : Ris kC set) (c : S63) : c ∈ appCells gone (mrgC cs set) ↔ c ∈ set ∨ (c ∈ cs ∧ ¬ inC set c.f0 ∧ c.f0 ∉ gone) := by
  unfold appCells
  rw [mrgC_keep hc hs]
  constructor
  · rintro ⟨p, _, hat, e⟩
    unfold appKeep at e
    rcases hat with ⟨h1, h2, _⟩ | ⟨h1, h2, h3, h4⟩
    · rw [if_pos h1] at e; cases e; exact .inl h2
    · rw [if_neg (by rw [h1]; simp)] at e
      split at e
      · cases e
      · rename_i h0
        cases e
        exact .inr ⟨h3, h4, fG_zero.1 ((fG_01 gone p.l.f0).resolve_right h0)⟩
  · rintro (h | ⟨h1, h2, h3⟩)
    · obtain ⟨p, hp, hat, hr, e⟩ := mrgC_hasR hc hs h
      exact ⟨p, hp, hat, by unfold appKeep; rw [if_pos hr, e]⟩
    · obtain ⟨p, hp, hat, hr, hl, e⟩ := mrgC_hasL hc hs h1 h2
      refine ⟨p, hp, hat, ?_⟩
      unfold appKeep
      rw [if_neg (by rw [hr]; simp), e, if_neg (by rw [fG_zero.2 h3]; simp)]
def rfoundK (gone : List ByteArray) (p : MPC) : Option ByteArray := if (!p.isR && decide (fG gone p.l.f0 = 1)) = true then some p.l.f0 else none
theorem rappFound_keys (gone : List ByteArray) : ∀ ps : List MPC, appFound gone ps = (ps.filterMap (rfoundK gone)).length
  | [] => rfl
  | p :: ps => by
    have ih := rappFound_keys gone ps
    unfold appFound at ih ⊢
    rw [List.filter_cons, List.filterMap_cons]
    unfold rfoundK
    by_cases h : (!p.isR && decide (fG gone p.l.f0 = 1)) = true
    · rw [if_pos h, if_pos h, List.length_cons, ih]; rfl
    · rw [if_neg h, if_neg h, ih]; rfl
theorem rfoundK_key {gone : List ByteArray} (p : MPC) (k : ByteArray) (h : rfoundK gone p = some k) : kS k = pkC p := by
  unfold rfoundK at h
  split at h
  · rename_i hc
    cases h
    simp only [Bool.and_eq_true, Bool.not_eq_true'] at hc
    unfold pkC kS
    rw [if_neg (by rw [hc.1]; simp)]
  · cases h
theorem rfG_one {l : List ByteArray} {k : ByteArray} : fG l k = 1 ↔ k ∈ l := by
  rcases fG_01 l k with h | h
  · exact ⟨fun h1 => by rw [h] at h1; simp at h1, fun h1 => absurd h1 (fG_zero.1 h)⟩
  · exact ⟨fun _ => Classical.byContradiction fun hn => by rw [fG_zero.2 hn] at h; simp at h, fun _ => h⟩
theorem rmem_found {gone : List ByteArray} {cs set : List S63} (hc : Ris kC cs) (hs : Ris kC set) (k : ByteArray) : k ∈ (mrgC cs set).filterMap (rfoundK gone) ↔ k ∈ gone ∧ inC cs k ∧ ¬ inC set k := by
  rw [mrgC_keep hc hs]
  constructor
  · rintro ⟨p, _, hat, e⟩
    unfold rfoundK at e
    split at e
    · rename_i h
      cases e
      simp only [Bool.and_eq_true, Bool.not_eq_true', decide_eq_true_eq] at h
      rcases hat with ⟨h1, _⟩ | ⟨h1, h2, h3, h4⟩
      · rw [h.1] at h1; cases h1
      · exact ⟨rfG_one.1 h.2, ⟨p.l, h3, rfl⟩, h4⟩
    · cases e
  · rintro ⟨h1, ⟨c, hcc, rfl⟩, h3⟩
    obtain ⟨p, hp, hat, hr, hl, e⟩ := mrgC_hasL hc hs hcc h3
    refine ⟨p, hp, hat, ?_⟩
    unfold rfoundK
    rw [if_pos (by rw [hr, e]; simp [rfG_one.2 h1]), e]
/-- Fewer are found than are gone just where one of the gone was not there. -/
theorem rfound_lt {gone : List ByteArray} {cs set : List S63} (hc : Ris kC cs) (hs : Ris kC set) (hg : Ris kS gone) (hap : ∀ k ∈ gone, ¬ inC set k) : appFound gone (mrgC cs set) < gone.length ↔ ∃ k, k ∈ gone ∧ ¬ inC cs k := by
  have e : (mrgC cs set).filterMap (rfoundK gone) = gone.filter (fun k => eqB (inC cs k)) := by
    refine Ris.ext (key := kS) (Ris.filterMap rfoundK_key (mrgC_ris _ cs set (Nat.le_refl _) hc hs)) (List.Pairwise.filter _ hg) (fun k => ?_)
    rw [rmem_found hc hs, List.mem_filter]
    exact ⟨fun h => ⟨h.1, eqB_true h.2.1⟩, fun h => ⟨h.1, of_eqB h.2, hap k h.1⟩⟩
  rw [rappFound_keys, e]
  constructor
  · intro h
    refine Classical.byContradiction fun hn => ?_
    rw [List.filter_eq_self.2 (fun k hk => eqB_true (Classical.byContradiction fun h2 => hn ⟨k, hk, h2⟩))] at h
    exact Nat.lt_irrefl _ h
  · rintro ⟨k, hk, hn⟩
    refine Nat.lt_of_le_of_ne (List.length_filter_le _ _) (fun h => ?_)
    have := List.filter_eq_self.1 (List.filter_sublist.eq_of_length h) k hk
    exact hn (of_eqB this)
/-! key by key -/
/-- What becomes of a key. -/
noncomputable def refKeep (cs set : List S63) (gone : List ByteArray) (u : ByteArray) : Option S63 := if eqB (inC set u) = true then some ⟨u, (atP set u).2.1⟩ else if eqB (u ∈ gone) = true then none else some ⟨u, (atP cs u).2.1⟩
noncomputable def refCells (cs set : List S63) (gone : List ByteArray) (r : List ByteArray) : List S63 := r.filterMap (refKeep cs set gone)
theorem refKeep_key {cs set : List S63} {gone : List ByteArray} (u : ByteArray) (c : S63) (h : refKeep cs set gone u = some c) : kC c = kS u := by
  unfold refKeep at h
  split at h
  · cases h; rfl
  · split at h
    · cases h
    · cases h; rfl
theorem atP_eta {l : List S63} (h : Ris kC l) {u : ByteArray} (hu : inC l u) : ∃ c, c ∈ l ∧ c.f0 = u ∧ (⟨u, (atP l u).2.1⟩ : S63) = c := by
  obtain ⟨c, hc, rfl⟩ := hu
  refine ⟨c, hc, rfl, ?_⟩
  rw [atP_cell h hc]
theorem refCells_eq {cs set : List S63} {gone r : List ByteArray} (hc : Ris kC cs) (hs : Ris kC set) (hr : Ris kS r) (hm : ∀ k, k ∈ r ↔ inC cs k ∨ inC set k ∨ k ∈ gone) : refCells cs set gone r = appCells gone (mrgC cs set) := by
  refine Ris.ext (Ris.filterMap (key := kS) refKeep_key hr) (rappCells_ris hc hs) (fun c => ?_)
  rw [rmem_appCells hc hs, refCells, List.mem_filterMap]
  constructor
  · rintro ⟨u, hu, h⟩
    unfold refKeep at h
    split at h
    · rename_i h1
      obtain ⟨d, hd, e, e2⟩ := atP_eta hs (of_eqB h1)
      rw [e2] at h
      cases h
      exact .inl hd
    · rename_i h1
      split at h
      · cases h
      · rename_i h2
        have hin : inC cs u := by
          rcases (hm u).1 hu with q | q | q
          · exact q
          · exact absurd (eqB_true q) h1
          · exact absurd (eqB_true q) h2
        obtain ⟨d, hd, e, e2⟩ := atP_eta hc hin
        rw [e2] at h
        cases h
        subst e
        exact .inr ⟨hd, fun q => h1 (eqB_true q), fun q => h2 (eqB_true q)⟩
  · rintro (h | ⟨h1, h2, h3⟩)
    · refine ⟨c.f0, (hm _).2 (.inr (.inl ⟨c, h, rfl⟩)), ?_⟩
      unfold refKeep
      rw [if_pos (eqB_true ⟨c, h, rfl⟩), atP_cell hs h]
    · refine ⟨c.f0, (hm _).2 (.inl ⟨c, h1, rfl⟩), ?_⟩
      unfold refKeep
      rw [eqB_false h2, eqB_false h3, atP_cell hc h1]
      rfl
/-- A key that is to go and was not there. -/
noncomputable def missK (cs : List S63) (gone : List ByteArray) (u : ByteArray) : Bool := eqB (u ∈ gone) && !eqB (inC cs u)
theorem refCells_snoc (cs set : List S63) (gone r : List ByteArray) (u : ByteArray) : refCells cs set gone (r ++ [u]) = match refKeep cs set gone u with | some c => refCells cs set gone r ++ [c] | none => refCells cs set gone r := by
  unfold refCells
  rw [List.filterMap_append]
  cases h : refKeep cs set gone u with
  | none => simp [h]
  | some c => simp [h]
theorem refCells_le (cs set : List S63) (gone r : List ByteArray) : (refCells cs set gone r).length ≤ r.length := List.length_filterMap_le _ _
/-- What the reference's Apply says, behind the two checks. -/
theorem refApply_miss {num dnum : Int} {cs set : List S63} {gone r : List ByteArray} (h1 : chkS num cs = 0) (h2 : chkD dnum set gone = 0) {u : ByteArray} (hu : missK cs gone u = true) : applyP num cs dnum set gone = (0, [], 110) := by
  have hg : u ∈ gone ∧ ¬ inC cs u := by
    unfold missK at hu
    simp only [Bool.and_eq_true, Bool.not_eq_true'] at hu
    exact ⟨of_eqB hu.1, not_eqB hu.2⟩
  have vd := chkD_ris h2
  unfold applyP
  rw [if_neg (by rw [h1]; simp), if_neg (by rw [h2]; simp), if_pos ((rfound_lt (chkS_ris h1) vd.1 vd.2.1 vd.2.2).2 ⟨u, hg⟩)]
theorem refApply_done {num dnum : Int} {cs set : List S63} {gone r : List ByteArray} (h1 : chkS num cs = 0) (h2 : chkD dnum set gone = 0) (hr : Ris kS r) (hm : ∀ k, k ∈ r ↔ inC cs k ∨ inC set k ∨ k ∈ gone) (hn : ∀ u ∈ r, missK cs gone u = false) :
    applyP num cs dnum set gone = if 64 < (refCells cs set gone r).length then (0, [], 111) else (dnum, refCells cs set gone r, 0) := by
  have vd := chkD_ris h2
  have hc := chkS_ris h1
  rw [refCells_eq hc vd.1 hr hm]
  unfold applyP
  rw [if_neg (by rw [h1]; simp), if_neg (by rw [h2]; simp), if_neg]
  intro h
  obtain ⟨k, hk, hk2⟩ := (rfound_lt hc vd.1 vd.2.1 vd.2.2).1 h
  have := hn k ((hm k).2 (.inr (.inr hk)))
  unfold missK at this
  rw [eqB_true hk, eqB_false hk2] at this
  cases this
end Go.Proofs.Ytpplnhefpcofoaa.PDeltaJoin
