/- Join, plain: what it answers, by members; associative. -/
import Derived.Test.YtpplnhefpcofoaaZPL
import Derived.Test.YtpplnhefpcofoaaZPLS
import Derived.Test.YtpplnhefpcofoaaZWA
namespace Go.Proofs.Ytpplnhefpcofoaa.PDeltaJoin
set_option linter.unusedVariables false
set_option linter.unusedSimpArgs false
theorem joinKeepC_key {gone : List ByteArray} (p : MPC) (c : S63) (h : joinKeepC gone p = some c) : kC c = pkC p := by
  unfold joinKeepC at h
  unfold pkC kC
  split at h
  · rename_i hr; cases h; rw [if_pos hr]
  · rename_i hr
    split at h
    · cases h; rw [if_neg hr]
    · cases h
theorem joinKeepG_key {es : List S63} (p : MPS) (c : ByteArray) (h : joinKeepG es p = some c) : kS c = pkS p := by
  unfold joinKeepG at h
  unfold pkS kS
  split at h
  · rename_i hr; cases h; rw [if_pos hr]
  · rename_i hr
    split at h
    · cases h; rw [if_neg hr]
    · cases h
theorem joinSet_ris {gone : List ByteArray} {ds es : List S63} (hd : Ris kC ds) (he : Ris kC es) : Ris kC (joinSet gone (mrgC ds es)) := Ris.filterMap joinKeepC_key (mrgC_ris _ ds es (Nat.le_refl _) hd he)
theorem joinGone_ris {es : List S63} {dg eg : List ByteArray} (hd : Ris kS dg) (he : Ris kS eg) : Ris kS (joinGone es (mrgS dg eg)) := Ris.filterMap joinKeepG_key (mrgS_ris _ dg eg (Nat.le_refl _) hd he)
theorem mem_joinSet {gone : List ByteArray} {ds es : List S63} (hd : Ris kC ds) (he : Ris kC es) (c : S63) : c ∈ joinSet gone (mrgC ds es) ↔ c ∈ es ∨ (c ∈ ds ∧ ¬ inC es c.f0 ∧ c.f0 ∉ gone) := by
  unfold joinSet
  rw [mrgC_keep hd he]
  constructor
  · rintro ⟨p, _, hat, e⟩
    unfold joinKeepC at e
    rcases hat with ⟨h1, h2, _⟩ | ⟨h1, h2, h3, h4⟩
    · rw [if_pos h1] at e; cases e; exact .inl h2
    · rw [if_neg (by rw [h1]; simp)] at e
      split at e
      · rename_i h0; cases e; exact .inr ⟨h3, h4, fG_zero.1 h0⟩
      · cases e
  · rintro (h | ⟨h1, h2, h3⟩)
    · obtain ⟨p, hp, hat, hr, e⟩ := mrgC_hasR hd he h
      exact ⟨p, hp, hat, by unfold joinKeepC; rw [if_pos hr, e]⟩
    · obtain ⟨p, hp, hat, hr, hl, e⟩ := mrgC_hasL hd he h1 h2
      exact ⟨p, hp, hat, by unfold joinKeepC; rw [if_neg (by rw [hr]; simp), e, if_pos (fG_zero.2 h3)]⟩
theorem mem_joinGone {es : List S63} {dg eg : List ByteArray} (hd : Ris kS dg) (he : Ris kS eg) (k : ByteArray) : k ∈ joinGone es (mrgS dg eg) ↔ k ∈ eg ∨ (k ∈ dg ∧ ¬ inC es k) := by
  unfold joinGone
  rw [mrgS_keep hd he]
  constructor
  · rintro ⟨p, _, hat, e⟩
    unfold joinKeepG at e
    rcases hat with ⟨h1, h2, _⟩ | ⟨h1, h2, h3, h4⟩
    · rw [if_pos h1] at e; cases e; exact .inl h2
    · rw [if_neg (by rw [h1]; simp)] at e
      split at e
      · rename_i h0; cases e; exact .inr ⟨h3, fS_zero.1 h0⟩
      · cases e
  · intro h
    by_cases hk : k ∈ eg
    · obtain ⟨p, hp, hat, hr, e⟩ := mrgS_hasR hd he hk
      exact ⟨p, hp, hat, by unfold joinKeepG; rw [if_pos hr, e]⟩
    · obtain ⟨h1, h2⟩ := h.resolve_left hk
      obtain ⟨p, hp, hat, hr, hl, e⟩ := mrgS_hasL hd he h1 (fun h => hk ((inS_iff _ _).1 h))
      exact ⟨p, hp, hat, by unfold joinKeepG; rw [if_neg (by rw [hr]; simp), e, if_pos (fS_zero.2 h2)]⟩
theorem mem_rightsS {dg eg : List ByteArray} (hd : Ris kS dg) (he : Ris kS eg) (k : ByteArray) : k ∈ rightsS (mrgS dg eg) ↔ k ∈ eg := by
  unfold rightsS
  rw [mrgS_keep hd he]
  constructor
  · rintro ⟨p, _, hat, e⟩
    rcases hat with ⟨h1, h2, _⟩ | ⟨h1, _⟩
    · simp only [h1, if_true] at e; cases e; exact h2
    · rw [h1] at e; simp at e
  · intro h
    obtain ⟨p, hp, hat, hr, e⟩ := mrgS_hasR hd he h
    exact ⟨p, hp, hat, by rw [if_pos hr, e]⟩
theorem anyBoth_iff {dg eg : List ByteArray} (hd : Ris kS dg) (he : Ris kS eg) : anyBoth (mrgS dg eg) = true ↔ ∃ k, k ∈ dg ∧ k ∈ eg := by
  unfold anyBoth
  rw [List.any_eq_true]
  constructor
  · rintro ⟨p, hp, h⟩
    simp only [Bool.and_eq_true] at h
    rcases mrgS_at _ dg eg (Nat.le_refl _) hd he p hp with ⟨h1, h2, ⟨_, h4, h5⟩ | ⟨h4, _⟩⟩ | ⟨h1, _⟩
    · exact ⟨p.r, h5 ▸ h4, h2⟩
    · rw [h.1] at h4; cases h4
    · rw [h.2] at h1; cases h1
  · rintro ⟨k, h1, h2⟩
    obtain ⟨p, hp, hat, hr, e⟩ := mrgS_hasR hd he h2
    refine ⟨p, hp, ?_⟩
    rcases hat with ⟨_, _, ⟨h4, _⟩ | ⟨_, h5⟩⟩ | ⟨h3, _⟩
    · simp [h4, hr]
    · exact absurd ⟨k, h1, e.symm⟩ h5
    · rw [hr] at h3; cases h3
/-- A joined delta, by members. -/
structure Joined (x y z : S27) : Prop where
  vx : Ris kC x.f1 ∧ Ris kS x.f2 ∧ ∀ k ∈ x.f2, ¬ inC x.f1 k
  vy : Ris kC y.f1 ∧ Ris kS y.f2 ∧ ∀ k ∈ y.f2, ¬ inC y.f1 k
  num : z.f0 = y.f0
  rc : Ris kC z.f1
  rg : Ris kS z.f2
  cells : ∀ c, c ∈ z.f1 ↔ c ∈ y.f1 ∨ (c ∈ x.f1 ∧ ¬ inC y.f1 c.f0 ∧ c.f0 ∉ y.f2)
  gone : ∀ k, k ∈ z.f2 ↔ k ∈ y.f2 ∨ (k ∈ x.f2 ∧ ¬ inC y.f1 k)
  apart : ∀ k, k ∈ x.f2 → k ∈ y.f2 → False
theorem joined {x y : S27} (h : joinE x y = 0) : chkD x.f0 x.f1 x.f2 = 0 ∧ chkD y.f0 y.f1 y.f2 = 0 ∧ Joined x y (joinD x y) := by
  unfold joinE joinP at h
  by_cases h1 : chkD x.f0 x.f1 x.f2 ≠ 0
  · rw [if_pos h1] at h; exact absurd h h1
  rw [if_neg h1] at h
  by_cases h2 : chkD y.f0 y.f1 y.f2 ≠ 0
  · rw [if_pos h2] at h; exact absurd h h2
  rw [if_neg h2] at h
  by_cases h3 : anyBoth (mrgS x.f2 y.f2) = true
  · rw [if_pos h3] at h; simp at h
  rw [if_neg h3] at h
  split at h
  · simp at h
  rename_i h4
  have vx := chkD_ris (Classical.not_not.1 h1)
  have vy := chkD_ris (Classical.not_not.1 h2)
  have e : joinP x.f0 x.f1 x.f2 y.f0 y.f1 y.f2 = (y.f0, joinSet (rightsS (mrgS x.f2 y.f2)) (mrgC x.f1 y.f1), joinGone y.f1 (mrgS x.f2 y.f2), 0) := by
    unfold joinP
    rw [if_neg h1, if_neg h2, if_neg h3, if_neg h4]
  refine ⟨Classical.not_not.1 h1, Classical.not_not.1 h2, vx, vy, ?_, ?_, ?_, ?_, ?_, ?_⟩
  · unfold joinD; rw [e]
  · unfold joinD; rw [e]; exact joinSet_ris vx.1 vy.1
  · unfold joinD; rw [e]; exact joinGone_ris vx.2.1 vy.2.1
  · intro c
    unfold joinD
    rw [e]
    show c ∈ joinSet (rightsS (mrgS x.f2 y.f2)) (mrgC x.f1 y.f1) ↔ _
    rw [mem_joinSet vx.1 vy.1, mem_rightsS vx.2.1 vy.2.1]
  · intro k
    unfold joinD
    rw [e]
    exact mem_joinGone vx.2.1 vy.2.1 k
  · intro k k1 k2
    exact h3 ((anyBoth_iff vx.2.1 vy.2.1).2 ⟨k, k1, k2⟩)
theorem Joined.keys {x y z : S27} (h : Joined x y z) (k : ByteArray) : inC z.f1 k ↔ inC y.f1 k ∨ (inC x.f1 k ∧ ¬ inC y.f1 k ∧ k ∉ y.f2) := by
  constructor
  · rintro ⟨c, hc, rfl⟩
    rcases (h.cells c).1 hc with h1 | ⟨h1, h2, h3⟩
    · exact .inl ⟨c, h1, rfl⟩
    · exact .inr ⟨⟨c, h1, rfl⟩, h2, h3⟩
  · rintro (⟨c, hc, rfl⟩ | ⟨⟨c, hc, rfl⟩, h2, h3⟩)
    · exact ⟨c, (h.cells c).2 (.inl hc), rfl⟩
    · exact ⟨c, (h.cells c).2 (.inr ⟨hc, h2, h3⟩), rfl⟩
end Go.Proofs.Ytpplnhefpcofoaa.PDeltaJoin
