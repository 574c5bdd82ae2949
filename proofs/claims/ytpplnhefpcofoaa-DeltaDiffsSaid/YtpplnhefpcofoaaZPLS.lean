/- The merged list of texts, by members. -/
import Derived.Test.YtpplnhefpcofoaaZPL
import Derived.Test.YtpplnhefpcofoaaZIS
namespace Go.Proofs.Ytpplnhefpcofoaa.PDeltaJoin
set_option linter.unusedVariables false
set_option linter.unusedSimpArgs false
/-! the merged list: S -/
def pkS (p : MPS) : ByteArray := if p.isR = true then p.r else p.l
/-- What stands in the merged list of two rising lists. -/
def AtS (a b : List ByteArray) (p : MPS) : Prop :=
  (p.isR = true ∧ p.r ∈ b ∧ ((p.isL = true ∧ p.l ∈ a ∧ p.l = p.r) ∨ (p.isL = false ∧ ¬ inS a (p.r)))) ∨ (p.isR = false ∧ p.isL = true ∧ p.l ∈ a ∧ ¬ inS b (p.l))
theorem mrgS_at : ∀ (n : Nat) (a b : List ByteArray), a.length + b.length ≤ n → Ris kS a → Ris kS b → ∀ p ∈ mrgS a b, AtS a b p
  | _, [], [], _, _, _, p, hp => by rw [mrgS_nil] at hp; cases hp
  | 0, _ :: _, _, h, _, _, _, _ => by simp at h
  | 0, [], _ :: _, h, _, _, _, _ => by simp at h
  | n + 1, x :: a, [], h, ha, hb, p, hp => by
    rw [mrgS_l] at hp
    rcases List.mem_cons.1 hp with rfl | hp
    · exact .inr ⟨rfl, rfl, by simp, fun ⟨c, hc, _⟩ => by cases hc⟩
    · rcases mrgS_at n a [] (by simp at h ⊢; omega) (List.pairwise_cons.1 ha).2 hb p hp with ⟨_, h2, _⟩ | ⟨h1, h2, h3, h4⟩
      · cases h2
      · exact .inr ⟨h1, h2, List.mem_cons_of_mem _ h3, h4⟩
  | n + 1, [], y :: b, h, ha, hb, p, hp => by
    rw [mrgS_r] at hp
    rcases List.mem_cons.1 hp with rfl | hp
    · exact .inl ⟨rfl, by simp, .inr ⟨rfl, fun ⟨c, hc, _⟩ => by cases hc⟩⟩
    · rcases mrgS_at n [] b (by simp at h ⊢; omega) ha (List.pairwise_cons.1 hb).2 p hp with ⟨h1, h2, h3⟩ | ⟨_, _, h3, _⟩
      · exact .inl ⟨h1, List.mem_cons_of_mem _ h2, h3⟩
      · cases h3
  | n + 1, x :: a, y :: b, h, ha, hb, p, hp => by
    have ha' := List.pairwise_cons.1 ha
    have hb' := List.pairwise_cons.1 hb
    rw [mrgS] at hp
    simp only [List.length_cons] at h
    split at hp
    · rename_i h1
      split at hp
      · rename_i h2
        have e := kle_anti h1 h2
        rcases List.mem_cons.1 hp with rfl | hp
        · exact .inl ⟨rfl, by simp, .inl ⟨rfl, by simp, e⟩⟩
        · rcases mrgS_at n a b (by omega) ha'.2 hb'.2 p hp with ⟨j1, j2, j3⟩ | ⟨j1, j2, j3, j4⟩
          · refine .inl ⟨j1, List.mem_cons_of_mem _ j2, ?_⟩
            rcases j3 with ⟨h3, h4, h5⟩ | ⟨h3, h4⟩
            · exact .inl ⟨h3, List.mem_cons_of_mem _ h4, h5⟩
            · refine .inr ⟨h3, fun ⟨c, hc, ec⟩ => ?_⟩
              rcases List.mem_cons.1 hc with e2 | hc
              · subst e2
                have := hb'.1 p.r j2
                exact klt_ne this (by show y = p.r; rw [← ec]; exact e.symm)
              · exact h4 ⟨c, hc, ec⟩
          · refine .inr ⟨j1, j2, List.mem_cons_of_mem _ j3, fun ⟨c, hc, ec⟩ => ?_⟩
            rcases List.mem_cons.1 hc with e2 | hc
            · subst e2
              exact klt_ne (ha'.1 p.l j3) (by show x = p.l; rw [← ec]; exact e)
            · exact j4 ⟨c, hc, ec⟩
      · rename_i h2
        have hlt : klt (x) (y) := kle_lt.1 (by simpa using h2)
        rcases List.mem_cons.1 hp with rfl | hp
        · refine .inr ⟨rfl, rfl, by simp, fun ⟨c, hc, ec⟩ => ?_⟩
          rcases List.mem_cons.1 hc with e2 | hc
          · subst e2; exact klt_ne hlt ec.symm
          · exact klt_ne (klt_trans hlt (hb'.1 c hc)) ec.symm
        · rcases mrgS_at n a (y :: b) (by simp only [List.length_cons]; omega) ha'.2 hb p hp with ⟨j1, j2, j3⟩ | ⟨h1, h2, h3, h4⟩
          · refine .inl ⟨j1, j2, ?_⟩
            rcases j3 with ⟨h3, h4, h5⟩ | ⟨h3, h4⟩
            · exact .inl ⟨h3, List.mem_cons_of_mem _ h4, h5⟩
            · refine .inr ⟨h3, fun ⟨c, hc, ec⟩ => ?_⟩
              rcases List.mem_cons.1 hc with e2 | hc
              · subst e2
                rcases List.mem_cons.1 j2 with e3 | j2
                · rw [e3] at ec; exact klt_ne hlt ec
                · exact klt_ne (klt_trans hlt (hb'.1 p.r j2)) ec
              · exact h4 ⟨c, hc, ec⟩
          · exact .inr ⟨h1, h2, List.mem_cons_of_mem _ h3, h4⟩
    · rename_i h1
      have hlt : klt (y) (x) := kle_lt.1 (by simpa using h1)
      rcases List.mem_cons.1 hp with rfl | hp
      · refine .inl ⟨rfl, by simp, .inr ⟨rfl, fun ⟨c, hc, ec⟩ => ?_⟩⟩
        rcases List.mem_cons.1 hc with e2 | hc
        · subst e2; exact klt_ne hlt ec.symm
        · exact klt_ne (klt_trans hlt (ha'.1 c hc)) ec.symm
      · rcases mrgS_at n (x :: a) b (by simp only [List.length_cons]; omega) ha hb'.2 p hp with ⟨h1, h2, h3⟩ | ⟨h1, h2, h3, h4⟩
        · exact .inl ⟨h1, List.mem_cons_of_mem _ h2, h3⟩
        · refine .inr ⟨h1, h2, h3, fun ⟨c, hc, ec⟩ => ?_⟩
          rcases List.mem_cons.1 hc with e2 | hc
          · subst e2
            rcases List.mem_cons.1 h3 with e3 | h3
            · rw [e3] at ec; exact klt_ne hlt ec
            · exact klt_ne (klt_trans hlt (ha'.1 p.l h3)) ec
          · exact h4 ⟨c, hc, ec⟩
/-- Every element of the two stands in it. -/
theorem mrgS_all : ∀ (n : Nat) (a b : List ByteArray), a.length + b.length ≤ n → (∀ y ∈ b, ∃ p ∈ mrgS a b, p.isR = true ∧ p.r = y) ∧ (∀ x ∈ a, ∃ p ∈ mrgS a b, p.isL = true ∧ p.l = x)
  | _, [], [], _ => ⟨fun _ h => (by cases h), fun _ h => (by cases h)⟩
  | 0, _ :: _, _, h => by simp at h
  | 0, [], _ :: _, h => by simp at h
  | n + 1, x :: a, [], h => by
    obtain ⟨i1, i2⟩ := mrgS_all n a [] (by simp at h ⊢; omega)
    rw [mrgS_l]
    refine ⟨fun _ h => (by cases h), fun z hz => ?_⟩
    rcases List.mem_cons.1 hz with rfl | hz
    · exact ⟨_, List.mem_cons_self, rfl, rfl⟩
    · obtain ⟨p, hp, h1, h2⟩ := i2 z hz; exact ⟨p, List.mem_cons_of_mem _ hp, h1, h2⟩
  | n + 1, [], y :: b, h => by
    obtain ⟨i1, i2⟩ := mrgS_all n [] b (by simp at h ⊢; omega)
    rw [mrgS_r]
    refine ⟨fun z hz => ?_, fun _ h => (by cases h)⟩
    rcases List.mem_cons.1 hz with rfl | hz
    · exact ⟨_, List.mem_cons_self, rfl, rfl⟩
    · obtain ⟨p, hp, h1, h2⟩ := i1 z hz; exact ⟨p, List.mem_cons_of_mem _ hp, h1, h2⟩
  | n + 1, x :: a, y :: b, h => by
    rw [mrgS]
    simp only [List.length_cons] at h
    split
    · split
      · obtain ⟨i1, i2⟩ := mrgS_all n a b (by omega)
        refine ⟨fun z hz => ?_, fun z hz => ?_⟩
        · rcases List.mem_cons.1 hz with rfl | hz
          · exact ⟨_, List.mem_cons_self, rfl, rfl⟩
          · obtain ⟨p, hp, h1, h2⟩ := i1 z hz; exact ⟨p, List.mem_cons_of_mem _ hp, h1, h2⟩
        · rcases List.mem_cons.1 hz with rfl | hz
          · exact ⟨_, List.mem_cons_self, rfl, rfl⟩
          · obtain ⟨p, hp, h1, h2⟩ := i2 z hz; exact ⟨p, List.mem_cons_of_mem _ hp, h1, h2⟩
      · obtain ⟨i1, i2⟩ := mrgS_all n a (y :: b) (by simp only [List.length_cons]; omega)
        refine ⟨fun z hz => ?_, fun z hz => ?_⟩
        · obtain ⟨p, hp, h1, h2⟩ := i1 z hz; exact ⟨p, List.mem_cons_of_mem _ hp, h1, h2⟩
        · rcases List.mem_cons.1 hz with rfl | hz
          · exact ⟨_, List.mem_cons_self, rfl, rfl⟩
          · obtain ⟨p, hp, h1, h2⟩ := i2 z hz; exact ⟨p, List.mem_cons_of_mem _ hp, h1, h2⟩
    · obtain ⟨i1, i2⟩ := mrgS_all n (x :: a) b (by simp only [List.length_cons]; omega)
      refine ⟨fun z hz => ?_, fun z hz => ?_⟩
      · rcases List.mem_cons.1 hz with rfl | hz
        · exact ⟨_, List.mem_cons_self, rfl, rfl⟩
        · obtain ⟨p, hp, h1, h2⟩ := i1 z hz; exact ⟨p, List.mem_cons_of_mem _ hp, h1, h2⟩
      · obtain ⟨p, hp, h1, h2⟩ := i2 z hz; exact ⟨p, List.mem_cons_of_mem _ hp, h1, h2⟩
theorem AtS.key {a b : List ByteArray} {p : MPS} (h : AtS a b p) : inS a (pkS p) ∨ inS b (pkS p) := by
  rcases h with ⟨h1, h2, _⟩ | ⟨h1, h2, h3, _⟩
  · exact .inr ⟨p.r, h2, by unfold pkS; rw [if_pos h1]⟩
  · exact .inl ⟨p.l, h3, by unfold pkS; rw [if_neg (by rw [h1]; simp)]⟩
theorem mrgS_ris : ∀ (n : Nat) (a b : List ByteArray), a.length + b.length ≤ n → Ris kS a → Ris kS b → Ris pkS (mrgS a b)
  | _, [], [], _, _, _ => by rw [mrgS_nil]; exact List.Pairwise.nil
  | 0, _ :: _, _, h, _, _ => by simp at h
  | 0, [], _ :: _, h, _, _ => by simp at h
  | n + 1, x :: a, [], h, ha, hb => by
    have ha' := List.pairwise_cons.1 ha
    rw [mrgS_l]
    refine List.pairwise_cons.2 ⟨fun p hp => ?_, mrgS_ris n a [] (by simp at h ⊢; omega) ha'.2 hb⟩
    rcases (mrgS_at _ a [] (Nat.le_refl _) ha'.2 hb p hp).key with ⟨c, hc, e⟩ | ⟨c, hc, _⟩
    · rw [← e]; exact ha'.1 c hc
    · cases hc
  | n + 1, [], y :: b, h, ha, hb => by
    have hb' := List.pairwise_cons.1 hb
    rw [mrgS_r]
    refine List.pairwise_cons.2 ⟨fun p hp => ?_, mrgS_ris n [] b (by simp at h ⊢; omega) ha hb'.2⟩
    rcases (mrgS_at _ [] b (Nat.le_refl _) ha hb'.2 p hp).key with ⟨c, hc, _⟩ | ⟨c, hc, e⟩
    · cases hc
    · rw [← e]; exact hb'.1 c hc
  | n + 1, x :: a, y :: b, h, ha, hb => by
    have ha' := List.pairwise_cons.1 ha
    have hb' := List.pairwise_cons.1 hb
    rw [mrgS]
    simp only [List.length_cons] at h
    split
    · rename_i h1
      split
      · rename_i h2
        have e := kle_anti h1 h2
        refine List.pairwise_cons.2 ⟨fun p hp => ?_, mrgS_ris n a b (by omega) ha'.2 hb'.2⟩
        rcases (mrgS_at _ a b (Nat.le_refl _) ha'.2 hb'.2 p hp).key with ⟨c, hc, e2⟩ | ⟨c, hc, e2⟩
        · rw [← e2]; show klt (y) _; rw [← e]; exact ha'.1 c hc
        · rw [← e2]; exact hb'.1 c hc
      · rename_i h2
        have hlt : klt (x) (y) := kle_lt.1 (by simpa using h2)
        refine List.pairwise_cons.2 ⟨fun p hp => ?_, mrgS_ris n a (y :: b) (by simp only [List.length_cons]; omega) ha'.2 hb⟩
        rcases (mrgS_at _ a (y :: b) (Nat.le_refl _) ha'.2 hb p hp).key with ⟨c, hc, e2⟩ | ⟨c, hc, e2⟩
        · rw [← e2]; exact ha'.1 c hc
        · rw [← e2]
          rcases List.mem_cons.1 hc with e3 | hc
          · rw [e3]; exact hlt
          · exact klt_trans hlt (hb'.1 c hc)
    · rename_i h1
      have hlt : klt (y) (x) := kle_lt.1 (by simpa using h1)
      refine List.pairwise_cons.2 ⟨fun p hp => ?_, mrgS_ris n (x :: a) b (by simp only [List.length_cons]; omega) ha hb'.2⟩
      rcases (mrgS_at _ (x :: a) b (Nat.le_refl _) ha hb'.2 p hp).key with ⟨c, hc, e2⟩ | ⟨c, hc, e2⟩
      · rw [← e2]
        rcases List.mem_cons.1 hc with e3 | hc
        · rw [e3]; exact hlt
        · exact klt_trans hlt (ha'.1 c hc)
      · rw [← e2]; exact hb'.1 c hc
/-- One law for what a keeping makes of the merged list. -/
theorem mrgS_keep {β : Type} {a b : List ByteArray} (ha : Ris kS a) (hb : Ris kS b) (f : MPS → Option β) (z : β) :
    z ∈ (mrgS a b).filterMap f ↔ ∃ p, p ∈ mrgS a b ∧ AtS a b p ∧ f p = some z := by
  rw [List.mem_filterMap]
  exact ⟨fun ⟨p, hp, e⟩ => ⟨p, hp, mrgS_at _ a b (Nat.le_refl _) ha hb p hp, e⟩, fun ⟨p, hp, _, e⟩ => ⟨p, hp, e⟩⟩
theorem mrgS_hasR {a b : List ByteArray} (ha : Ris kS a) (hb : Ris kS b) {y : ByteArray} (hy : y ∈ b) : ∃ p, p ∈ mrgS a b ∧ AtS a b p ∧ p.isR = true ∧ p.r = y := by
  obtain ⟨p, hp, h1, h2⟩ := (mrgS_all _ a b (Nat.le_refl _)).1 y hy
  exact ⟨p, hp, mrgS_at _ a b (Nat.le_refl _) ha hb p hp, h1, h2⟩
theorem mrgS_hasL {a b : List ByteArray} (ha : Ris kS a) (hb : Ris kS b) {x : ByteArray} (hx : x ∈ a) (hn : ¬ inS b (x)) : ∃ p, p ∈ mrgS a b ∧ AtS a b p ∧ p.isR = false ∧ p.isL = true ∧ p.l = x := by
  obtain ⟨p, hp, h1, h2⟩ := (mrgS_all _ a b (Nat.le_refl _)).2 x hx
  have hat := mrgS_at _ a b (Nat.le_refl _) ha hb p hp
  refine ⟨p, hp, hat, ?_, h1, h2⟩
  cases hr : p.isR with
  | false => rfl
  | true =>
    rcases hat with ⟨_, h3, h4⟩ | ⟨h3, _⟩
    · rcases h4 with ⟨_, h5, h6⟩ | ⟨h5, _⟩
      · exact absurd ⟨p.r, h3, by rw [← h2]; exact h6.symm⟩ hn
      · rw [h1] at h5; cases h5
    · rw [hr] at h3; cases h3
end Go.Proofs.Ytpplnhefpcofoaa.PDeltaJoin
