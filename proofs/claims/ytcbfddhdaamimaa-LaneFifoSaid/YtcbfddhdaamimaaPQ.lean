/- LaneRefill, plainly. -/
import Derived.Test.YtcbfddhdaamimaaPP
namespace Go.Proofs.Ytcbfddhdaamimaa.PLaneFifo
open Go.RowKit Go.Conc Go.Proofs.YtcbfddhdaamimaaW.PrintWords Go.Proofs.YtcbfddhdaamimaaW.PrintLast
set_option linter.unusedVariables false
set_option linter.unusedSimpArgs false

theorem putP_out (rm : Int) : ∀ (ys xs : List S35), (∀ x ∈ (putP rm xs ys).2.2, x ∈ xs ∨ ∃ y ∈ ys, x = cop y ∧ ¬ y.f0 < 0) ∧ (putP rm xs ys).2.2.length ≤ xs.length + ys.length
  | [], xs => by simp [putP]
  | y :: ys, xs => by
    by_cases h : stops rm xs y = 0
    · rw [putP_cons _ _ _ _ h]
      obtain ⟨h1, h2⟩ := putP_out rm ys (xs ++ [cop y])
      have hy : ¬ y.f0 < 0 := fun hn => by unfold stops at h; rw [if_pos hn] at h; cases h
      refine ⟨fun x hx => ?_, ?_⟩
      · rcases h1 x hx with h3 | ⟨z, hz, h3⟩
        · rw [List.mem_append, List.mem_singleton] at h3
          rcases h3 with h3 | rfl
          · exact .inl h3
          · exact .inr ⟨y, by simp, rfl, hy⟩
        · exact .inr ⟨z, List.mem_cons_of_mem _ hz, h3⟩
      · simp only [List.length_append, List.length_cons, List.length_nil] at h2 ⊢
        omega
    · rw [putP_stop _ _ _ _ h]
      exact ⟨fun x hx => .inl hx, by simp⟩
theorem recsX_cons (x : S35) (l : List S35) : recsX (x :: l) = recsX l + if x.f0 = 0 then 1 else 0 := by
  unfold recsX
  by_cases h : x.f0 = 0 <;> simp [List.filter_cons, h]
theorem recsX_snoc (x : S35) (l : List S35) : recsX (l ++ [x]) = recsX l + if x.f0 = 0 then 1 else 0 := by
  unfold recsX
  rw [List.filter_append, List.length_append]
  by_cases h : x.f0 = 0 <;> simp [List.filter_cons, h]
theorem recsX_nil : recsX [] = 0 := rfl
theorem recsX_le (l : List S35) : 0 ≤ recsX l ∧ recsX l ≤ l.length := by
  unfold recsX
  have := List.length_filter_le (fun x : S35 => x.f0 == 0) l
  omega
theorem recsX_front : ∀ (rs : List S33) (xs : List S35), recsX (rs.map item0 ++ xs) = rs.length + recsX xs
  | [], xs => by simp
  | r :: rs, xs => by
    rw [List.map_cons, List.cons_append, recsX_cons, recsX_front rs xs, if_pos (show (item0 r).f0 = 0 from rfl), List.length_cons]
    omega
end Go.Proofs.Ytcbfddhdaamimaa.PLaneFifo
