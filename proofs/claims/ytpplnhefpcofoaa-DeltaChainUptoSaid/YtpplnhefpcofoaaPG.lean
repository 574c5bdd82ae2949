/- DeltaJoin, plain: the joined one applied, then the two in turn go well too. -/
import Derived.Test.YtpplnhefpcofoaaPF
namespace Go.Proofs.Ytpplnhefpcofoaa.PDeltaJoin
set_option linter.unusedVariables false
set_option linter.unusedSimpArgs false
theorem applyS_fit {s : S24} {d : S27} (h : applyE s d = 0) : chkS (applyS s d).f0 (applyS s d).f1 = 0 := by
  obtain ⟨c0, c1, a⟩ := applied h
  have s1 := (chkD_ok c1).1
  refine chkS_of (by rw [a.num]; exact (chkS_ok s1).2.2.1) (by rw [a.num]; exact (chkS_ok s1).2.2.2) (applyE_len h) a.rc (fun c hc => ?_)
  rcases (a.cells c).1 hc with h | ⟨h, _⟩
  · exact chkCells_ok _ _ (chkS_ok s1).2.1 c h
  · exact chkCells_ok _ _ (chkS_ok c0).2.1 c h
theorem turn_ok {s : S24} {d e : S27} (h1 : applyE s d = 0) (h3 : joinE d e = 0) (h4 : applyE s (joinD d e) = 0) : applyE (applyS s d) e = 0 := by
  obtain ⟨c0, c1, a1⟩ := applied h1
  obtain ⟨_, c2, j⟩ := joined h3
  obtain ⟨_, _, a4⟩ := applied h4
  have hf := applyS_fit h1
  rcases applyE_cases hf c2 with ⟨_, k, hk, hn⟩ | ⟨h, hall⟩ | h
  · exfalso
    have hs := a4.there k ((j.gone k).2 (.inl hk))
    refine hn ((a1.keys k).2 ?_)
    by_cases q : inC d.f1 k
    · exact .inl q
    · exact .inr ⟨hs, q, fun q2 => j.apart k q2 hk⟩
  · exfalso
    have e1 : appCells e.f2 (mrgC (applyS s d).f1 e.f1) = (applyS s (joinD d e)).f1 := by
      rw [appCells_eq]
      refine Ris.ext (joinSet_ris a1.rc j.vy.1) a4.rc (fun c => ?_)
      rw [mem_joinSet a1.rc j.vy.1, a4.cells, a1.cells, j.cells, j.keys, j.gone]
      by_cases q1 : c ∈ e.f1 <;> by_cases q2 : c ∈ d.f1 <;> by_cases q3 : c ∈ s.f1 <;> by_cases q4 : inC e.f1 c.f0 <;> by_cases q5 : inC d.f1 c.f0 <;> by_cases q6 : c.f0 ∈ e.f2 <;> by_cases q7 : c.f0 ∈ d.f2 <;> simp [q1, q2, q3, q4, q5, q6, q7]
    have hl := applyE_len h4
    unfold applyE applyP at h
    rw [if_neg (by rw [hf]; simp), if_neg (by rw [c2]; simp)] at h
    split at h
    · simp at h
    · split at h
      · rename_i q; rw [e1] at q; omega
      · simp at h
  · exact h
end Go.Proofs.Ytpplnhefpcofoaa.PDeltaJoin
