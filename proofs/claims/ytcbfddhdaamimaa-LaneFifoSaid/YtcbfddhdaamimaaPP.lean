/- LanePull, plainly. -/
import Derived.Test.YtcbfddhdaamimaaLS
namespace Go.Proofs.Ytcbfddhdaamimaa.PLaneFifo
open Go.RowKit Go.Conc Go.Proofs.YtcbfddhdaamimaaW.PrintWords Go.Proofs.YtcbfddhdaamimaaW.PrintLast
set_option linter.unusedVariables false
set_option linter.unusedSimpArgs false

def recF (l : List S35) : List S35 := l.filter (fun x => x.f0 == 0)
def cntM (l : List S35) : Nat := (l.filter (fun x => decide (0 < x.f0))).length
theorem recF_snoc (l : List S35) (x : S35) : recF (l ++ [x]) = recF l ++ if x.f0 = 0 then [x] else [] := by
  unfold recF
  rw [List.filter_append]
  by_cases h : x.f0 = 0 <;> simp [List.filter_cons, h]
theorem cntM_snoc (l : List S35) (x : S35) : cntM (l ++ [x]) = cntM l + if 0 < x.f0 then 1 else 0 := by
  unfold cntM
  rw [List.filter_append, List.length_append]
  by_cases h : 0 < x.f0 <;> simp [List.filter_cons, h]
theorem recF_len (l : List S35) : (recF l).length ≤ l.length := List.length_filter_le _ _
theorem cntM_le (l : List S35) : cntM l ≤ l.length := List.length_filter_le _ _
theorem recF_mem {l : List S35} {x : S35} (h : x ∈ recF l) : x ∈ l ∧ x.f0 = 0 := by
  unfold recF at h
  rw [List.mem_filter] at h
  exact ⟨h.1, by simpa using h.2⟩
theorem cop_rec {x : S35} (h : x.f0 = 0) : cop x = x := by unfold cop; rw [if_neg (by omega)]
theorem putP_all : ∀ (ys xs : List S35), (∀ y ∈ ys, 0 ≤ y.f0) → putP 0 xs ys = (ys.length, 0, xs ++ ys.map cop)
  | [], xs, _ => by simp [putP]
  | y :: ys, xs, h => by
    have h0 : stops 0 xs y = 0 := by
      unfold stops fullX
      have := h y (by simp)
      rw [if_neg (by omega), if_neg (by simp)]
    rw [putP_cons _ _ _ _ h0, putP_all ys (xs ++ [cop y]) (fun z hz => h z (List.mem_cons_of_mem _ hz))]
    simp
theorem places_at : ∀ (ys : List S35) (n : Int) (i : Nat) (hi : i < ys.length), (∀ y ∈ ys, 0 ≤ y.f0) → 0 < ys[i].f0 → cntM (ys.take i) < (places ys n).length ∧ (places ys n).getD (cntM (ys.take i)) 0 = n + (recF (ys.take i)).length
  | [], _, i, hi, _, _ => by simp at hi
  | y :: ys, n, 0, _, _, hm => by
    simp only [List.getElem_cons_zero] at hm
    simp [places, hm, cntM, recF]
  | y :: ys, n, i + 1, hi, h, hm => by
    simp only [List.getElem_cons_succ] at hm
    have hi' : i < ys.length := by simpa using hi
    by_cases hy : 0 < y.f0
    · have ih := places_at ys n i hi' (fun z hz => h z (List.mem_cons_of_mem _ hz)) hm
      have e1 : cntM ((y :: ys).take (i + 1)) = cntM (ys.take i) + 1 := by simp [cntM, List.filter_cons, hy]
      have e2 : recF ((y :: ys).take (i + 1)) = recF (ys.take i) := by
        have : ¬ y.f0 = 0 := by omega
        simp [recF, List.filter_cons, this]
      rw [e1, e2]
      simp only [places]
      rw [if_pos hy]
      exact ⟨by simp only [List.length_cons]; omega, by rw [List.getD_cons_succ]; exact ih.2⟩
    · have ih := places_at ys (n + 1) i hi' (fun z hz => h z (List.mem_cons_of_mem _ hz)) hm
      have h0 : y.f0 = 0 := by have := h y (by simp); omega
      have e1 : cntM ((y :: ys).take (i + 1)) = cntM (ys.take i) := by simp [cntM, List.filter_cons, hy]
      have e2 : recF ((y :: ys).take (i + 1)) = y :: recF (ys.take i) := by simp [recF, List.filter_cons, h0]
      rw [e1, e2]
      simp only [places]
      rw [if_neg hy]
      exact ⟨ih.1, by rw [ih.2, List.length_cons]; omega⟩
/-- What lies in the lane when the markers among the first i items have been pulled. -/
def left (ys : List S35) (i : Nat) : List S35 := recF (ys.take i) ++ (ys.drop i).map cop
theorem left_zero (ys : List S35) : left ys 0 = ys.map cop := by simp [left, recF]
theorem left_end (ys : List S35) : left ys ys.length = recF ys := by simp [left]
theorem left_rec (ys : List S35) (i : Nat) (hi : i < ys.length) (h : ys[i].f0 = 0) : left ys (i + 1) = left ys i := by
  unfold left
  rw [List.take_succ_eq_append_getElem hi, recF_snoc, if_pos h, List.drop_eq_getElem_cons hi, List.map_cons, cop_rec h]
  simp
theorem left_mark (ys : List S35) (i : Nat) (hi : i < ys.length) (h : 0 < ys[i].f0) : left ys i = recF (ys.take i) ++ cop ys[i] :: (ys.drop (i + 1)).map cop ∧ left ys (i + 1) = recF (ys.take i) ++ (ys.drop (i + 1)).map cop := by
  unfold left
  refine ⟨by rw [List.drop_eq_getElem_cons hi, List.map_cons], ?_⟩
  rw [List.take_succ_eq_append_getElem hi, recF_snoc, if_neg (by omega), List.append_nil]
theorem split_one : ∀ (a a' b b' : List S35) (y y' : S35), a ++ y :: b = a' ++ y' :: b' → (∀ x ∈ a, ¬ 0 < x.f0) → (∀ x ∈ a', ¬ 0 < x.f0) → 0 < y.f0 → 0 < y'.f0 → a = a' ∧ y = y' ∧ b = b'
  | [], [], b, b', y, y', h, _, _, _, _ => by simp at h; exact ⟨rfl, h.1, h.2⟩
  | [], x' :: a', b, b', y, y', h, _, h', hy, _ => by
    simp at h
    exact absurd hy (h.1 ▸ h' x' (by simp))
  | x :: a, [], b, b', y, y', h, h1, _, _, hy' => by
    simp at h
    exact absurd hy' (h.1 ▸ h1 x (by simp))
  | x :: a, x' :: a', b, b', y, y', h, h1, h2, hy, hy' => by
    simp at h
    obtain ⟨r1, r2, r3⟩ := split_one a a' b b' y y' h.2 (fun z hz => h1 z (List.mem_cons_of_mem _ hz)) (fun z hz => h2 z (List.mem_cons_of_mem _ hz)) hy hy'
    exact ⟨by rw [h.1, r1], r2, r3⟩
theorem recF_map_take (ys : List S35) (i : Nat) : ∃ b, (recF ys).map (·.f1) = (recF (ys.take i)).map (·.f1) ++ b := by
  refine ⟨(recF (ys.drop i)).map (·.f1), ?_⟩
  rw [← List.map_append]
  unfold recF
  rw [← List.filter_append, List.take_append_drop]
theorem came_St {α : Type} {d : Kd α} {own : Nat → Nat} {w : World} {x : α} {cs : List Value} (h : d.K w x cs) (h0 : ∀ k, k < w.heap.size → own k = 0) : St d own w x cs := fun S o2 w2 hS hu => d.K_below (hu.below (Nat.le_refl _) (fun k hk => by rw [h0 k hk]; exact hS)) h
theorem St33_of {own : Nat → Nat} {w : World} {x : S35} {A5 : Option Addr} {c5 : Nat} {A6 : Option Addr} {c6 : Nat} (h : St k35 own w x [.int .i64 x.f0, .string x.f1.f0, .int .i64 x.f1.f1.f0, .int .i64 x.f1.f1.f1, .string x.f1.f1.f2, .slice A5 x.f1.f1.f3.length c5, .slice A6 x.f1.f2.length c6]) : St k33 own w x.f1 [.string x.f1.f0, .int .i64 x.f1.f1.f0, .int .i64 x.f1.f1.f1, .string x.f1.f1.f2, .slice A5 x.f1.f1.f3.length c5, .slice A6 x.f1.f2.length c6] := by
  obtain ⟨h1, h2, h3, h4⟩ := St35_open h
  exact fun S o2 w2 hS hu => k33_mk w2 x.f1 h1 (h2 S o2 w2 hS hu) h3 (h4 S o2 w2 hS hu)
end Go.Proofs.Ytcbfddhdaamimaa.PLaneFifo
