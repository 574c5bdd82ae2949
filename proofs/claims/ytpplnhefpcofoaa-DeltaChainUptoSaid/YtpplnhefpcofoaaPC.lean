/- DeltaJoin, plain. -/
import Derived.Test.YtpplnhefpcofoaaPB
namespace Go.Proofs.Ytpplnhefpcofoaa.PDeltaJoin
set_option linter.unusedVariables false
set_option linter.unusedSimpArgs false
/-- Join's errors, where both deltas are fit. -/
theorem joinE_cases {x y : S27} (hx : chkD x.f0 x.f1 x.f2 = 0) (hy : chkD y.f0 y.f1 y.f2 = 0) : joinE x y = 0 ∨ joinE x y = 111 ∨ (joinE x y = 110 ∧ ∃ k, k ∈ x.f2 ∧ k ∈ y.f2) := by
  unfold joinE joinP
  rw [if_neg (by rw [hx]; simp), if_neg (by rw [hy]; simp)]
  split
  · rename_i h
    exact .inr (.inr ⟨rfl, (anyBoth_iff (chkD_ris hx).2.1 (chkD_ris hy).2.1).1 h⟩)
  · split
    · exact .inr (.inl rfl)
    · exact .inl rfl
/-- Both in turn went well: Join refuses at most for the number of cells. -/
theorem join_after {s : S24} {d e : S27} (h1 : applyE s d = 0) (h2 : applyE (applyS s d) e = 0) : joinE d e = 0 ∨ joinE d e = 111 := by
  obtain ⟨_, c1, a1⟩ := applied h1
  obtain ⟨_, c2, a2⟩ := applied h2
  rcases joinE_cases c1 c2 with h | h | ⟨_, k, k1, k2⟩
  · exact .inl h
  · exact .inr h
  · exfalso
    have ht := a2.there k k2
    rcases (a1.keys k).1 ht with h | ⟨_, _, h⟩
    · exact a1.vd.2.2 k k1 h
    · exact h k1
/-- Apply's errors, where state and delta are fit. -/
theorem applyE_cases {s : S24} {d : S27} (hs : chkS s.f0 s.f1 = 0) (hd : chkD d.f0 d.f1 d.f2 = 0) : (applyE s d = 110 ∧ ∃ k, k ∈ d.f2 ∧ ¬ inC s.f1 k) ∨ (applyE s d = 111 ∧ (∀ k ∈ d.f2, inC s.f1 k)) ∨ applyE s d = 0 := by
  have hl := found_lt (gone := d.f2) (cs := s.f1) (set := d.f1) (chkS_ris hs) (chkD_ris hd).1 (chkD_ris hd).2.1 (chkD_ris hd).2.2
  unfold applyE applyP
  rw [if_neg (by rw [hs]; simp), if_neg (by rw [hd]; simp)]
  split
  · rename_i h
    exact .inl ⟨rfl, hl.1 h⟩
  · rename_i h
    split
    · exact .inr (.inl ⟨rfl, fun k hk => Classical.byContradiction fun hn => h (hl.2 ⟨k, hk, hn⟩)⟩)
    · exact .inr (.inr rfl)
end Go.Proofs.Ytpplnhefpcofoaa.PDeltaJoin
