/- A state applied to, by members. -/
import Derived.Test.YtpplnhefpcofoaaPA
namespace Go.Proofs.Ytpplnhefpcofoaa.PDeltaJoin
set_option linter.unusedVariables false
set_option linter.unusedSimpArgs false
def applyS (s : S24) (d : S27) : S24 := ⟨(applyP s.f0 s.f1 d.f0 d.f1 d.f2).1, (applyP s.f0 s.f1 d.f0 d.f1 d.f2).2.1⟩
def applyE (s : S24) (d : S27) : Int := (applyP s.f0 s.f1 d.f0 d.f1 d.f2).2.2
structure Applied (s : S24) (d : S27) (t : S24) : Prop where
  vs : Ris kC s.f1
  vd : Ris kC d.f1 ∧ Ris kS d.f2 ∧ ∀ k ∈ d.f2, ¬ inC d.f1 k
  num : t.f0 = d.f0
  rc : Ris kC t.f1
  cells : ∀ c, c ∈ t.f1 ↔ c ∈ d.f1 ∨ (c ∈ s.f1 ∧ ¬ inC d.f1 c.f0 ∧ c.f0 ∉ d.f2)
  there : ∀ k ∈ d.f2, inC s.f1 k
theorem applied {s : S24} {d : S27} (h : applyE s d = 0) : chkS s.f0 s.f1 = 0 ∧ chkD d.f0 d.f1 d.f2 = 0 ∧ Applied s d (applyS s d) := by
  unfold applyE applyP at h
  by_cases h1 : chkS s.f0 s.f1 ≠ 0
  · rw [if_pos h1] at h; exact absurd h h1
  rw [if_neg h1] at h
  by_cases h2 : chkD d.f0 d.f1 d.f2 ≠ 0
  · rw [if_pos h2] at h; exact absurd h h2
  rw [if_neg h2] at h
  by_cases h3 : appFound d.f2 (mrgC s.f1 d.f1) < d.f2.length
  · rw [if_pos h3] at h; simp at h
  rw [if_neg h3] at h
  by_cases h4 : 64 < (appCells d.f2 (mrgC s.f1 d.f1)).length
  · rw [if_pos h4] at h; simp at h
  have vs := chkS_ris (Classical.not_not.1 h1)
  have vd := chkD_ris (Classical.not_not.1 h2)
  have e : applyP s.f0 s.f1 d.f0 d.f1 d.f2 = (d.f0, appCells d.f2 (mrgC s.f1 d.f1), 0) := by
    unfold applyP
    rw [if_neg h1, if_neg h2, if_neg h3, if_neg h4]
  refine ⟨Classical.not_not.1 h1, Classical.not_not.1 h2, vs, vd, ?_, ?_, ?_, ?_⟩
  · unfold applyS; rw [e]
  · unfold applyS; rw [e]; show Ris kC (appCells _ _); rw [appCells_eq]; exact joinSet_ris vs vd.1
  · intro c
    unfold applyS
    rw [e]
    show c ∈ appCells d.f2 (mrgC s.f1 d.f1) ↔ _
    rw [appCells_eq, mem_joinSet vs vd.1]
  · intro k hk
    exact Classical.byContradiction fun hn => h3 ((found_lt vs vd.1 vd.2.1 vd.2.2).2 ⟨k, hk, hn⟩)
theorem Applied.keys {s : S24} {d : S27} {t : S24} (h : Applied s d t) (k : ByteArray) : inC t.f1 k ↔ inC d.f1 k ∨ (inC s.f1 k ∧ ¬ inC d.f1 k ∧ k ∉ d.f2) := by
  constructor
  · rintro ⟨c, hc, rfl⟩
    rcases (h.cells c).1 hc with h1 | ⟨h1, h2, h3⟩
    · exact .inl ⟨c, h1, rfl⟩
    · exact .inr ⟨⟨c, h1, rfl⟩, h2, h3⟩
  · rintro (⟨c, hc, rfl⟩ | ⟨⟨c, hc, rfl⟩, h2, h3⟩)
    · exact ⟨c, (h.cells c).2 (.inl hc), rfl⟩
    · exact ⟨c, (h.cells c).2 (.inr ⟨hc, h2, h3⟩), rfl⟩
/-- In turn, or joined: the same state. -/
theorem applied_joined {s t u v : S24} {d e j : S27} (h1 : Applied s d t) (h2 : Applied t e u) (h3 : Joined d e j) (h4 : Applied s j v) : u = v := by
  have e1 : u.f1 = v.f1 := Ris.ext h2.rc h4.rc (fun c => by
    rw [h2.cells, h4.cells, h1.cells, h3.cells, h3.keys, h3.gone]
    by_cases q1 : c ∈ e.f1 <;> by_cases q2 : c ∈ d.f1 <;> by_cases q3 : c ∈ s.f1 <;> by_cases q4 : inC e.f1 c.f0 <;> by_cases q5 : inC d.f1 c.f0 <;> by_cases q6 : c.f0 ∈ e.f2 <;> by_cases q7 : c.f0 ∈ d.f2 <;> simp [q1, q2, q3, q4, q5, q6, q7])
  have e0 : u.f0 = v.f0 := by rw [h2.num, h4.num, h3.num]
  cases u
  cases v
  simp only at e0 e1
  rw [e0, e1]
end Go.Proofs.Ytpplnhefpcofoaa.PDeltaJoin
