/- DeltaJoin, plain: what the law says. -/
import Derived.Test.YtpplnhefpcofoaaPE
namespace Go.Proofs.Ytpplnhefpcofoaa.PDeltaJoin
set_option linter.unusedVariables false
set_option linter.unusedSimpArgs false
theorem same_len {l m : List S63} (hl : Ris kC l) (hm : Ris kC m) (h : ∀ c, c ∈ l ↔ c ∈ m) : l.length = m.length := by rw [Ris.ext hl hm h]
theorem applyE_len {s : S24} {d : S27} (h : applyE s d = 0) : (applyS s d).f1.length ≤ 64 := by
  unfold applyE applyP at h
  unfold applyS applyP
  split at h
  · rename_i q; exact absurd h q
  split at h
  · rename_i q; exact absurd h q
  split at h
  · simp at h
  split at h
  · simp at h
  · rename_i q1 q2 q3 q4
    rw [if_neg q1, if_neg q2, if_neg q3, if_neg q4]
    show (appCells _ _).length ≤ 64
    omega
/-- Applied joined: where the two in turn go well, an error is 110, of a key that was made and taken away and was not there. -/
theorem join_miss {s : S24} {d e : S27} (h1 : applyE s d = 0) (h2 : applyE (applyS s d) e = 0) (h3 : joinE d e = 0) (h4 : applyE s (joinD d e) ≠ 0) : applyE s (joinD d e) = 110 ∧ ∃ k, k ∈ e.f2 ∧ inC d.f1 k ∧ ¬ inC s.f1 k := by
  obtain ⟨c0, c1, a1⟩ := applied h1
  obtain ⟨_, c2, a2⟩ := applied h2
  obtain ⟨_, _, j⟩ := joined h3
  rcases applyE_cases c0 (joinD_fit h3) with ⟨h, k, hk, hn⟩ | ⟨h, hall⟩ | h
  · refine ⟨h, k, ?_⟩
    rcases (j.gone k).1 hk with g | ⟨g, _⟩
    · refine ⟨g, ?_, hn⟩
      rcases (a1.keys k).1 (a2.there k g) with q | ⟨q, _⟩
      · exact q
      · exact absurd q hn
    · exact absurd (a1.there k g) hn
  · exfalso
    have e1 : appCells (joinD d e).f2 (mrgC s.f1 (joinD d e).f1) = (applyS (applyS s d) e).f1 := by
      rw [appCells_eq]
      refine Ris.ext (joinSet_ris a1.vs j.rc) a2.rc (fun c => ?_)
      rw [mem_joinSet a1.vs j.rc, a2.cells, a1.cells, j.cells, j.keys, j.gone]
      by_cases q1 : c ∈ e.f1 <;> by_cases q2 : c ∈ d.f1 <;> by_cases q3 : c ∈ s.f1 <;> by_cases q4 : inC e.f1 c.f0 <;> by_cases q5 : inC d.f1 c.f0 <;> by_cases q6 : c.f0 ∈ e.f2 <;> by_cases q7 : c.f0 ∈ d.f2 <;> simp [q1, q2, q3, q4, q5, q6, q7]
    have hl : (applyS (applyS s d) e).f1.length ≤ 64 := applyE_len h2
    unfold applyE applyP at h
    rw [if_neg (by rw [c0]; simp), if_neg (by rw [joinD_fit h3]; simp)] at h
    split at h
    · simp at h
    · split at h
      · rename_i q; rw [e1] at q; omega
      · simp at h
  · exact absurd h h4
end Go.Proofs.Ytpplnhefpcofoaa.PDeltaJoin
