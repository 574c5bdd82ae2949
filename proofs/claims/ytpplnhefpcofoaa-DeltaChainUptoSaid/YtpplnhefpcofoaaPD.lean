/- What is put together of fit parts is fit. -/
import Derived.Test.YtpplnhefpcofoaaPC
namespace Go.Proofs.Ytpplnhefpcofoaa.PDeltaJoin
set_option linter.unusedVariables false
set_option linter.unusedSimpArgs false
theorem chkCells_of : ∀ (l : List S63) (p : Option ByteArray), Ris kC l → (∀ c ∈ l, OkC c) → (∀ q, p = some q → ∀ c ∈ l, klt q c.f0) → chkCells p l = 0
  | [], _, _, _, _ => rfl
  | c :: l, p, hr, ho, hp => by
    have hr' := List.pairwise_cons.1 hr
    obtain ⟨o1, o2, o3⟩ := ho c (by simp)
    rw [chkCells_cons, if_neg (by omega)]
    have hn : notAbove p c.f0 = false := by
      cases p with
      | none => rfl
      | some q => exact kle_lt.2 (hp q rfl c (by simp))
    rw [if_neg (by rw [hn]; simp), if_neg (by omega), if_neg (by rw [o3]; simp)]
    exact chkCells_of l _ hr'.2 (fun d hd => ho d (List.mem_cons_of_mem _ hd)) (fun q e d hd => by cases e; exact hr'.1 d hd)
theorem chkS_of {num : Int} {l : List S63} (h0 : 0 ≤ num) (h1 : num ≤ 1073741824) (hl : l.length ≤ 64) (hr : Ris kC l) (ho : ∀ c ∈ l, OkC c) : chkS num l = 0 := by
  unfold chkS
  rw [if_neg (by omega), if_neg (by omega)]
  exact chkCells_of l none hr ho (fun q e => by cases e)
theorem chkGone_of (f : ByteArray → Int) : ∀ (l : List ByteArray) (p : Option ByteArray), Ris kS l → (∀ k ∈ l, k.size ≤ 12 ∧ f k ≠ 1) → (∀ q, p = some q → ∀ k ∈ l, klt q k) → chkGone f p l = 0
  | [], _, _, _, _ => rfl
  | k :: l, p, hr, ho, hp => by
    have hr' := List.pairwise_cons.1 hr
    obtain ⟨o1, o2⟩ := ho k (by simp)
    rw [chkGone, if_neg (by omega)]
    have hn : notAbove p k = false := by
      cases p with
      | none => rfl
      | some q => exact kle_lt.2 (hp q rfl k (by simp))
    rw [if_neg (by rw [hn]; simp [o2])]
    exact chkGone_of f l _ hr'.2 (fun d hd => ho d (List.mem_cons_of_mem _ hd)) (fun q e d hd => by cases e; exact hr'.1 d hd)
end Go.Proofs.Ytpplnhefpcofoaa.PDeltaJoin
