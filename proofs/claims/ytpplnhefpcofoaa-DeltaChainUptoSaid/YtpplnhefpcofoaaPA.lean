/- Apply, plain: what it answers, by members. -/
import Derived.Test.YtpplnhefpcofoaaPJ
namespace Go.Proofs.Ytpplnhefpcofoaa.PDeltaJoin
set_option linter.unusedVariables false
set_option linter.unusedSimpArgs false
theorem appKeep_eq (gone : List ByteArray) (p : MPC) : appKeep gone p = joinKeepC gone p := by
  unfold appKeep joinKeepC
  split
  · rfl
  · rcases fG_01 gone p.l.f0 with h | h <;> simp [h]
theorem appCells_eq (gone : List ByteArray) (ps : List MPC) : appCells gone ps = joinSet gone ps := by
  unfold appCells joinSet
  congr 1
  funext p
  exact appKeep_eq gone p
/-- The keys that are gone and were there. -/
def foundK (gone : List ByteArray) (p : MPC) : Option ByteArray := if (!p.isR && decide (fG gone p.l.f0 = 1)) = true then some p.l.f0 else none
theorem appFound_keys (gone : List ByteArray) : ∀ ps : List MPC, appFound gone ps = (ps.filterMap (foundK gone)).length
  | [] => rfl
  | p :: ps => by
    have ih := appFound_keys gone ps
    unfold appFound at ih ⊢
    rw [List.filter_cons, List.filterMap_cons]
    unfold foundK
    by_cases h : (!p.isR && decide (fG gone p.l.f0 = 1)) = true
    · rw [if_pos h, if_pos h, List.length_cons, ih]; rfl
    · rw [if_neg h, if_neg h, ih]; rfl
theorem foundK_key {gone : List ByteArray} (p : MPC) (k : ByteArray) (h : foundK gone p = some k) : kS k = pkC p := by
  unfold foundK at h
  split at h
  · rename_i hc
    cases h
    simp only [Bool.and_eq_true, Bool.not_eq_true'] at hc
    unfold pkC kS
    rw [if_neg (by rw [hc.1]; simp)]
  · cases h
theorem fG_one {l : List ByteArray} {k : ByteArray} : fG l k = 1 ↔ k ∈ l := by
  rcases fG_01 l k with h | h
  · exact ⟨fun h1 => by rw [h] at h1; simp at h1, fun h1 => absurd h1 (fG_zero.1 h)⟩
  · exact ⟨fun _ => Classical.byContradiction fun hn => by rw [fG_zero.2 hn] at h; simp at h, fun _ => h⟩
theorem mem_found {gone : List ByteArray} {cs set : List S63} (hc : Ris kC cs) (hs : Ris kC set) (k : ByteArray) : k ∈ (mrgC cs set).filterMap (foundK gone) ↔ k ∈ gone ∧ inC cs k ∧ ¬ inC set k := by
  rw [mrgC_keep hc hs]
  constructor
  · rintro ⟨p, _, hat, e⟩
    unfold foundK at e
    split at e
    · rename_i h
      cases e
      simp only [Bool.and_eq_true, Bool.not_eq_true', decide_eq_true_eq] at h
      rcases hat with ⟨h1, _⟩ | ⟨h1, h2, h3, h4⟩
      · rw [h.1] at h1; cases h1
      · exact ⟨fG_one.1 h.2, ⟨p.l, h3, rfl⟩, h4⟩
    · cases e
  · rintro ⟨h1, ⟨c, hcc, rfl⟩, h3⟩
    obtain ⟨p, hp, hat, hr, hl, e⟩ := mrgC_hasL hc hs hcc h3
    refine ⟨p, hp, hat, ?_⟩
    unfold foundK
    rw [if_pos (by rw [hr, e]; simp [fG_one.2 h1]), e]
/-- Fewer are found than are gone just where one of the gone was not there. -/
theorem found_lt {gone : List ByteArray} {cs set : List S63} (hc : Ris kC cs) (hs : Ris kC set) (hg : Ris kS gone) (hap : ∀ k ∈ gone, ¬ inC set k) : appFound gone (mrgC cs set) < gone.length ↔ ∃ k, k ∈ gone ∧ ¬ inC cs k := by
  have e : (mrgC cs set).filterMap (foundK gone) = gone.filter (fun k => eqB (inC cs k)) := by
    refine Ris.ext (key := kS) (Ris.filterMap foundK_key (mrgC_ris _ cs set (Nat.le_refl _) hc hs)) (List.Pairwise.filter _ hg) (fun k => ?_)
    rw [mem_found hc hs, List.mem_filter]
    exact ⟨fun h => ⟨h.1, eqB_true h.2.1⟩, fun h => ⟨h.1, of_eqB h.2, hap k h.1⟩⟩
  rw [appFound_keys, e]
  constructor
  · intro h
    refine Classical.byContradiction fun hn => ?_
    rw [List.filter_eq_self.2 (fun k hk => eqB_true (Classical.byContradiction fun h2 => hn ⟨k, hk, h2⟩))] at h
    exact Nat.lt_irrefl _ h
  · rintro ⟨k, hk, hn⟩
    refine Nat.lt_of_le_of_ne (List.length_filter_le _ _) (fun h => ?_)
    have := List.filter_eq_self.1 (List.filter_sublist.eq_of_length h) k hk
    exact hn (of_eqB this)
end Go.Proofs.Ytpplnhefpcofoaa.PDeltaJoin
