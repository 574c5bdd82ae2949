/- A joined delta is fit; applied it answers as the two in turn. -/
import Derived.Test.YtpplnhefpcofoaaPD
namespace Go.Proofs.Ytpplnhefpcofoaa.PDeltaJoin
set_option linter.unusedVariables false
set_option linter.unusedSimpArgs false
theorem joinE_len {x y : S27} (h : joinE x y = 0) : (joinD x y).f1.length ≤ 64 ∧ (joinD x y).f2.length ≤ 64 := by
  obtain ⟨c1, c2, _⟩ := joined h
  unfold joinE joinP at h
  rw [if_neg (by rw [c1]; simp), if_neg (by rw [c2]; simp)] at h
  split at h
  · simp at h
  rename_i h3
  split at h
  · simp at h
  rename_i h4
  have e : joinP x.f0 x.f1 x.f2 y.f0 y.f1 y.f2 = (y.f0, joinSet (rightsS (mrgS x.f2 y.f2)) (mrgC x.f1 y.f1), joinGone y.f1 (mrgS x.f2 y.f2), 0) := by
    unfold joinP
    rw [if_neg (by rw [c1]; simp), if_neg (by rw [c2]; simp), if_neg h3, if_neg h4]
  unfold joinD
  rw [e]
  exact ⟨by show (joinSet _ _).length ≤ 64; omega, by show (joinGone _ _).length ≤ 64; omega⟩
theorem joinD_fit {x y : S27} (h : joinE x y = 0) : chkD (joinD x y).f0 (joinD x y).f1 (joinD x y).f2 = 0 := by
  obtain ⟨c1, c2, j⟩ := joined h
  obtain ⟨l1, l2⟩ := joinE_len h
  obtain ⟨s1, _, k1⟩ := chkD_ok c1
  obtain ⟨s2, _, k2⟩ := chkD_ok c2
  have hs : chkS (joinD x y).f0 (joinD x y).f1 = 0 := chkS_of (by rw [j.num]; exact (chkS_ok s2).2.2.1) (by rw [j.num]; exact (chkS_ok s2).2.2.2) l1 j.rc (fun c hc => by
    rcases (j.cells c).1 hc with h | ⟨h, _⟩
    · exact chkCells_ok _ _ (chkS_ok s2).2.1 c h
    · exact chkCells_ok _ _ (chkS_ok s1).2.1 c h)
  unfold chkD
  rw [if_neg (by rw [hs]; simp), if_neg (by omega)]
  refine chkGone_of _ _ none j.rg (fun k hk => ⟨?_, ?_⟩) (fun q e => by cases e)
  · rcases (j.gone k).1 hk with h | ⟨h, _⟩
    · exact k2 k h
    · exact k1 k h
  · intro hf
    have hin : inC (joinD x y).f1 k := Classical.byContradiction fun hn => by rw [fS_zero.2 hn] at hf; simp at hf
    rcases (j.gone k).1 hk with h | ⟨h, hn⟩
    · rcases (j.keys k).1 hin with h2 | ⟨_, _, h2⟩
      · exact j.vy.2.2 k h h2
      · exact h2 h
    · rcases (j.keys k).1 hin with h2 | ⟨h2, _, _⟩
      · exact hn h2
      · exact j.vx.2.2 k h h2
end Go.Proofs.Ytpplnhefpcofoaa.PDeltaJoin
