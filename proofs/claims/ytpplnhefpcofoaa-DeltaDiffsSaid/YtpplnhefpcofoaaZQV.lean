/- Values that Check lets pass, with whole numbers in range, are Wf. -/
import Derived.Test.YtpplnhefpcofoaaZQP
namespace Go.Proofs.Ytpplnhefpcofoaa.PDeltaJoin
set_option linter.unusedVariables false
set_option linter.unusedSimpArgs false
/-- Whole numbers in range, all the way down. -/
inductive InR : S87 → Prop
  | mk (x : S87) (hr : In64 x.f1) (hc : ∀ y ∈ x.f3, InR y) : InR x
theorem wf_of : ∀ (N : Nat), (∀ (x : S87) (d p : Nat), SizeOf.sizeOf x ≤ N → InR x → (chkV x d p).1 = 0 → Wf x) ∧ (∀ (l : List S87) (d p : Nat), SizeOf.sizeOf l ≤ N → (∀ y ∈ l, InR y) → (chkL l d p).1 = 0 → ∀ y ∈ l, Wf y)
  | 0 => ⟨fun x => by cases x; intro d p h; simp at h, fun l => by cases l <;> (intro d p h; simp at h)⟩
  | N + 1 => by
    obtain ⟨iv, il⟩ := wf_of N
    refine ⟨fun x d p h hx h0 => ?_, fun l d p h hl h0 y hy => ?_⟩
    · obtain ⟨_, hr, hc⟩ := hx
      obtain ⟨f0, f1, f2, f3⟩ := x
      rw [chkV_eq _ _ _ _ _ _ _ rfl] at h0
      split at h0 <;> try (simp at h0; done)
      split at h0 <;> try (simp at h0; done)
      split at h0 <;> try (simp at h0; done)
      split at h0 <;> try (simp at h0; done)
      split at h0 <;> try (simp at h0; done)
      split at h0 <;> try (simp at h0; done)
      rename_i h1 h2 h3 h4 h5 h6
      refine Wf.mk _ ⟨by simp only; omega, by simp only; omega⟩ (fun q => ?_) (fun q => ?_) (fun q => ?_) (by simp only; omega) hr (il f3 _ _ (by simp at h; omega) hc h0)
      · exact Classical.byContradiction fun e => h3 (.inl ⟨e, q⟩)
      · exact Classical.byContradiction fun e => h3 (.inr (.inl ⟨e, q⟩))
      · refine Classical.byContradiction fun e => h3 (.inr (.inr ⟨?_, q⟩))
        cases f3 with
        | nil => exact absurd rfl e
        | cons _ _ => simp
    · cases l with
      | nil => cases hy
      | cons z zs =>
        simp at h
        rw [chkL_cons] at h0
        by_cases hz : (chkV z d p).1 ≠ 0
        · rw [if_pos hz] at h0; exact absurd h0 hz
        · rw [if_neg hz] at h0
          rcases List.mem_cons.1 hy with rfl | hy
          · exact iv y d p (by omega) (hl y (by simp)) (Classical.not_not.1 hz)
          · exact il zs d _ (by omega) (fun w hw => hl w (List.mem_cons_of_mem _ hw)) h0 y hy
theorem okV_of {n : Int} {l : List S63} (hr : ∀ c ∈ l, ∀ z ∈ c.f1, InR z) (h : chkS n l = 0) (hp : partsC l ≤ 10000) : ∀ c ∈ l, ∀ z ∈ c.f1, OkV z := by
  intro c hc z hz
  have hk := chkCells_ok _ _ (chkS_ok h).2.1 c hc
  have hv := chkVals_ok hk.2.2 z hz
  refine ⟨(wf_of _).1 z 0 0 (Nat.le_refl _) (hr c hc z hz) hv, hv, ?_⟩
  have h1 := (partsF_len _).1 z (Nat.le_refl _)
  have h2 := partsV_mem hz
  have h3 := partsC_mem hc
  omega
end Go.Proofs.Ytpplnhefpcofoaa.PDeltaJoin
