/- LaneFifo, plainly. -/
import Derived.Test.YtcbfddhdaamimaaBX
import Derived.Test.YtcbfddhdaamimaaPQ
namespace Go.Proofs.Ytcbfddhdaamimaa.PLaneFifo
open Go.RowKit Go.Conc Go.Proofs.YtcbfddhdaamimaaW.PrintWords Go.Proofs.YtcbfddhdaamimaaW.PrintLast
set_option linter.unusedVariables false
set_option linter.unusedSimpArgs false

theorem pairs_of_C {α : Type} {d : Kd α} {own : Nat → Nat} {w : World} {A : Option Addr} {n : Nat} {xs : List α} (h : d.C w A n xs) (h0 : ∀ k, k < w.heap.size → own k = 0) : ∃ l : List (α × List Value), l.map (·.1) = xs ∧ StC (pk d own w) own w A n l := by
  have hex : ∀ j : Nat, ∃ c : List Value, ∀ p, xs[j]? = some p → c.length = d.sz ∧ d.K w p c ∧ ∀ ad, A = some ad → ∀ i u, c[i]? = some u → w.cell? (ad.add (j * d.sz + i)) = some u := by
    intro j
    by_cases hn : 0 < n
    · obtain ⟨ad, rfl, hc⟩ := h.2.2 hn
      cases hj : xs[j]? with
      | none => exact ⟨[], fun p hp => by cases hp⟩
      | some p =>
        obtain ⟨c, hl, hK, hcell⟩ := hc j p hj
        refine ⟨c, fun p' hp' => ?_⟩
        obtain rfl := Option.some.inj hp'
        exact ⟨hl, hK, fun ad' e => by obtain rfl := Option.some.inj e; exact hcell⟩
    · refine ⟨[], fun p hp => ?_⟩
      have h1 := (List.getElem?_eq_some_iff.1 hp).1
      have := h.1
      omega
  obtain ⟨f, hf⟩ := Classical.skolem.1 hex
  refine ⟨xs.mapIdx (fun j x => (x, f j)), ?_, ?_⟩
  · apply List.ext_getElem?
    intro i
    rw [List.getElem?_map, List.getElem?_mapIdx]
    cases xs[i]? <;> rfl
  · intro S o2 w2 hS hu
    have hb : Below w.heap.size w w2 := hu.below (Nat.le_refl _) (fun k hk => by rw [h0 k hk]; exact hS)
    refine ⟨by rw [List.length_mapIdx]; exact h.1, h.2.1, fun hn => ?_⟩
    obtain ⟨ad, e, -⟩ := h.2.2 hn
    refine ⟨ad, e, fun j p hj => ?_⟩
    rw [List.getElem?_mapIdx] at hj
    cases hx : xs[j]? with
    | none => rw [hx] at hj; cases hj
    | some x =>
      rw [hx] at hj
      obtain rfl := Option.some.inj hj
      obtain ⟨h1, h2, h3⟩ := hf j x hx
      exact ⟨f j, h1, ⟨rfl, came_St h2 h0⟩, fun i u hi => pw_cell_below hb (h3 ad e i u hi)⟩
def marksX (xs : List S35) : List Int := (xs.filter (fun x => decide (0 < x.f0))).map (·.f0)
theorem marksX_snoc (l : List S35) (x : S35) : marksX (l ++ [x]) = marksX l ++ if 0 < x.f0 then [x.f0] else [] := by
  unfold marksX
  rw [List.filter_append, List.map_append]
  by_cases h : 0 < x.f0 <;> simp [List.filter_cons, h]
theorem marksX_cons (x : S35) (l : List S35) : marksX (x :: l) = if 0 < x.f0 then x.f0 :: marksX l else marksX l := by
  unfold marksX
  by_cases h : 0 < x.f0 <;> simp [List.filter_cons, h]
theorem recF_cons (x : S35) (l : List S35) : recF (x :: l) = if x.f0 = 0 then x :: recF l else recF l := by
  unfold recF
  by_cases h : x.f0 = 0 <;> simp [List.filter_cons, h]
theorem recF_app (a b : List S35) : recF (a ++ b) = recF a ++ recF b := List.filter_append ..
theorem marksX_app (a b : List S35) : marksX (a ++ b) = marksX a ++ marksX b := by unfold marksX; rw [List.filter_append, List.map_append]
theorem marksX_none {a : List S35} (h : ∀ x ∈ a, ¬ 0 < x.f0) : marksX a = [] := by
  unfold marksX
  rw [List.map_eq_nil_iff, List.filter_eq_nil_iff]
  intro x hx
  simpa using h x hx
theorem recF_all {a : List S35} (h : ∀ x ∈ a, ¬ 0 < x.f0) (h0 : ∀ x ∈ a, 0 ≤ x.f0) : recF a = a := by
  unfold recF
  rw [List.filter_eq_self]
  intro x hx
  have h1 := h x hx
  have h2 := h0 x hx
  simp
  omega
/-- The book says what lies in the lane. -/
structure Rel (xs : List S35) (rs : List S33) (ms : List Int) (oR oM : Nat) : Prop where
  hR : oR ≤ rs.length
  hM : oM ≤ ms.length
  r : rs.drop oR = (recF xs).map (·.f1)
  m : ms.drop oM = marksX xs
section
variable {xs : List S35} {rs : List S33} {ms : List Int} {oR oM : Nat}
theorem Rel.nil : Rel [] [] [] 0 0 := ⟨Nat.le_refl _, Nat.le_refl _, rfl, rfl⟩
theorem Rel.addR (h : Rel xs rs ms oR oM) (y : S35) (h0 : y.f0 = 0) : Rel (xs ++ [cop y]) (rs ++ [y.f1]) ms oR oM where
  hR := by have := h.hR; rw [List.length_append]; omega
  hM := h.hM
  r := by rw [List.drop_append_of_le_length h.hR, h.r, recF_snoc, cop_f0, if_pos h0, cop_rec h0, List.map_append]; rfl
  m := by rw [h.m, marksX_snoc, cop_f0, if_neg (by omega), List.append_nil]
theorem Rel.addM (h : Rel xs rs ms oR oM) (y : S35) (h0 : 0 < y.f0) : Rel (xs ++ [cop y]) rs (ms ++ [y.f0]) oR oM where
  hR := h.hR
  hM := by have := h.hM; rw [List.length_append]; omega
  r := by rw [h.r, recF_snoc, cop_f0, if_neg (by omega), List.append_nil]
  m := by rw [List.drop_append_of_le_length h.hM, h.m, marksX_snoc, cop_f0, if_pos h0]
theorem Rel.held (h : Rel xs rs ms oR oM) : recsX xs = ((rs.length - oR : Nat) : Int) := by
  have h1 := congrArg List.length h.r
  rw [List.length_drop, List.length_map] at h1
  unfold recsX
  unfold recF at h1
  rw [← h1]
theorem drop_cons {α : Type} {l : List α} {n : Nat} {x : α} {t : List α} (h : l.drop n = x :: t) : (∃ h' : n < l.length, l[n] = x) ∧ l.drop (n + 1) = t := by
  have hn : n < l.length := by
    have := congrArg List.length h
    rw [List.length_drop, List.length_cons] at this
    omega
  rw [List.drop_eq_getElem_cons hn] at h
  obtain ⟨h1, h2⟩ := List.cons.inj h
  exact ⟨⟨hn, h1⟩, h2⟩
theorem Rel.takeR {x : S35} (h : Rel (x :: xs) rs ms oR oM) (h0 : x.f0 = 0) : (∃ h' : oR < rs.length, rs[oR] = x.f1) ∧ Rel xs rs ms (oR + 1) oM := by
  have h1 := h.r
  rw [recF_cons, if_pos h0, List.map_cons] at h1
  obtain ⟨⟨h2, h3⟩, h4⟩ := drop_cons h1
  refine ⟨⟨h2, h3⟩, h2, h.hM, h4, ?_⟩
  have h5 := h.m
  rw [marksX_cons, if_neg (by omega)] at h5
  exact h5
theorem Rel.takeM {x : S35} (h : Rel (x :: xs) rs ms oR oM) (h0 : 0 < x.f0) : (∃ h' : oM < ms.length, ms[oM] = x.f0) ∧ Rel xs rs ms oR (oM + 1) := by
  have h1 := h.m
  rw [marksX_cons, if_pos h0] at h1
  obtain ⟨⟨h2, h3⟩, h4⟩ := drop_cons h1
  refine ⟨⟨h2, h3⟩, h.hR, h2, ?_, h4⟩
  have h5 := h.r
  rw [recF_cons, if_neg (by omega)] at h5
  exact h5
theorem Rel.nomarks (h : Rel xs rs ms oR oM) (h0 : ∀ x ∈ xs, ¬ 0 < x.f0) : oM = ms.length := by
  have h1 := congrArg List.length h.m
  rw [marksX_none h0, List.length_drop] at h1
  have := h.hM
  simp at h1
  omega
theorem Rel.empty (h : Rel [] rs ms oR oM) : oR = rs.length ∧ oM = ms.length := by
  refine ⟨?_, h.nomarks (fun x hx => by cases hx)⟩
  have h1 := congrArg List.length h.r
  rw [List.length_drop] at h1
  have := h.hR
  simp [recF] at h1
  omega
theorem Rel.pull {a b : List S35} {y : S35} (h : Rel (a ++ y :: b) rs ms oR oM) (h0 : ∀ x ∈ a, ¬ 0 < x.f0) (h1 : ∀ x ∈ a, 0 ≤ x.f0) (hy : 0 < y.f0) :
    (∃ h' : oM < ms.length, ms[oM] = y.f0) ∧ a.map (·.f1) = (rs.drop oR).take a.length ∧ a.length ≤ rs.length - oR ∧ Rel (a ++ b) rs ms oR (oM + 1) := by
  have hm := h.m
  rw [marksX_app, marksX_none h0, List.nil_append, marksX_cons, if_pos hy] at hm
  obtain ⟨h2, h3⟩ := drop_cons hm
  have hr := h.r
  rw [recF_app, recF_all h0 h1, recF_cons, if_neg (by omega), List.map_append] at hr
  refine ⟨h2, ?_, ?_, h.hR, h2.1, ?_, ?_⟩
  · rw [hr]
    exact (List.take_left' (by rw [List.length_map])).symm
  · have := congrArg List.length hr
    rw [List.length_drop, List.length_append, List.length_map] at this
    omega
  · rw [hr, recF_app, recF_all h0 h1, List.map_append]
  · rw [h3, marksX_app, marksX_none h0, List.nil_append]
end
theorem recsX_app (a b : List S35) : recsX (a ++ b) = recsX a + recsX b := by
  unfold recsX
  rw [List.filter_append, List.length_append]
  omega
end Go.Proofs.Ytcbfddhdaamimaa.PLaneFifo
