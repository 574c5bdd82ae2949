/- What the book's calls keep, plainly; CutRises' plain law. -/
import Derived.Test.YtomfknblehkocaaLG
namespace Go.Proofs.Ytomfknblehkocaa.C
open Go.RowKit Go.Proofs.YtomfknblehkocaaW.PrintWords Go.Proofs.YtomfknblehkocaaW.PrintLast
set_option linter.unusedVariables false
set_option linter.unusedSimpArgs false
/-- The book is of this mode; its logs are no longer than N. -/
structure Fit (b : Bk) (mode back : Int) (n N : Nat) : Prop where
  m : b.mode = mode
  bk : b.back = back
  p : b.ports.length = n
  l : ∀ i, (b.logs.getD i []).length ≤ N
theorem Fit.new (mode : Int) (n : Nat) (back : Int) : Fit (Bk.new mode n back) mode back n 0 := ⟨rfl, rfl, by unfold Bk.new; simp, fun i => by rw [new_logs]; simp⟩
theorem Fit.mono {b : Bk} {mode back : Int} {n N M : Nat} (h : Fit b mode back n N) (hm : N ≤ M) : Fit b mode back n M := ⟨h.m, h.bk, h.p, fun i => Nat.le_trans (h.l i) hm⟩
theorem Fit.logged {b : Bk} {mode back : Int} {n N : Nat} (h : Fit b mode back n N) (p : Nat) (x : List S45) : Fit (b.logged p x) mode back n (N + x.length) := by
  refine ⟨h.m, h.bk, h.p, fun i => ?_⟩
  show ((b.logs.set p (b.logs.getD p [] ++ x)).getD i []).length ≤ _
  by_cases hip : i = p
  · subst hip
    by_cases hi : i < b.logs.length
    · rw [getD_set_eq _ _ _ _ hi, List.length_append]
      have := h.l i
      omega
    · rw [List.getD_eq_getElem?_getD, List.getElem?_eq_none (by rw [List.length_set]; omega)]
      simp
  · rw [getD_set_ne _ _ _ _ _ hip]
    have := h.l i
    omega
theorem Fit.shutP {b : Bk} {mode back : Int} {n N : Nat} (h : Fit b mode back n N) (p : Nat) : Fit (b.shutP p) mode back n N := ⟨h.m, h.bk, by unfold Bk.shutP; simp only [List.length_set]; exact h.p, h.l⟩
theorem Fit.taken {b : Bk} {mode back : Int} {n N : Nat} (h : Fit b mode back n N) (s : S34) (y : List S45) : Fit (b.taken s y) mode back n N := ⟨h.m, h.bk, h.p, h.l⟩
theorem Fit.handed {b : Bk} {mode back : Int} {n N : Nat} (h : Fit b mode back n N) : Fit b.handed mode back n 0 := by
  refine ⟨h.m, h.bk, h.p, fun i => ?_⟩
  unfold Bk.handed
  rw [List.getD_eq_getElem?_getD, List.getElem?_replicate]
  split <;> simp
theorem Fit.freshed {b : Bk} {mode back : Int} {n N : Nat} (h : Fit b mode back n N) (id : Int) : Fit (b.freshed id) mode back n 0 := by
  refine ⟨h.m, h.bk, by unfold Bk.freshed; simp only [List.length_replicate]; exact h.p, fun i => ?_⟩
  unfold Bk.freshed
  rw [List.getD_eq_getElem?_getD, List.getElem?_replicate]
  split <;> simp
theorem Fit.begun {b : Bk} {mode back : Int} {n N : Nat} (h : Fit b mode back n N) (id : Int) : Fit (b.begun id) mode back n N := by
  unfold Bk.begun
  split
  · exact (h.freshed id).mono (Nat.zero_le _)
  · exact h
theorem Fit.ite {c : Prop} [Decidable c] {b1 b2 : Bk} {mode back : Int} {n N : Nat} (h1 : Fit b1 mode back n N) (h2 : Fit b2 mode back n N) : Fit (if c then b1 else b2) mode back n N := by
  split
  · exact h1
  · exact h2
theorem Fit.close {b : Bk} {mode back : Int} {n N : Nat} (h : Fit b mode back n N) (p : Nat) (x : List S45) (s : S34) (y : List S45) : Fit (b.close p x s y) mode back n (N + x.length) := by
  unfold Bk.close
  simp only []
  have h1 : Fit (if b.mode ≠ 1 ∧ b.copied = false then b.taken s y else b) mode back n N := Fit.ite (h.taken _ _) h
  have h2 : Fit (if b.mode = 3 then (if b.mode ≠ 1 ∧ b.copied = false then b.taken s y else b).logged p x else (if b.mode ≠ 1 ∧ b.copied = false then b.taken s y else b)) mode back n (N + x.length) := Fit.ite (h1.logged _ _) (h1.mono (Nat.le_add_right _ _))
  exact Fit.ite ((h2.shutP _).taken _ _) (h2.shutP _)
theorem Fit.mark {b : Bk} {mode back : Int} {n N : Nat} (h : Fit b mode back n N) (port id : Int) (x : List S45) (s : S34) (y : List S45) : Fit (b.mark port id x s y) mode back n (N + x.length) := by
  unfold Bk.mark
  split
  · exact (h.begun id).close _ _ _ _
  · exact h.mono (Nat.le_add_right _ _)
theorem Fit.took {b : Bk} {mode back : Int} {n N : Nat} (h : Fit b mode back n N) (port : Int) (r : S45) : Fit (b.took port r) mode back n (N + 1) := by
  unfold Bk.took
  split
  · exact h.logged _ _
  · exact h.mono (Nat.le_add_right _ _)
/-- What close leaves. -/
def Cl (b b' : Bk) : Prop := b'.now = b.now ∧ b'.given = b.given ∧ (b.copied = true → b'.copied = true)
theorem Cl.ite {c : Prop} [Decidable c] {b b1 b2 : Bk} (h1 : Cl b b1) (h2 : Cl b b2) : Cl b (if c then b1 else b2) := by
  split
  · exact h1
  · exact h2
theorem close_now (b : Bk) (p : Nat) (x : List S45) (s : S34) (y : List S45) : (b.close p x s y).now = b.now ∧ (b.close p x s y).given = b.given ∧ (b.copied = true → (b.close p x s y).copied = true) := by
  unfold Bk.close
  simp only []
  have h0 : Cl b b := ⟨rfl, rfl, fun h => h⟩
  have ht : ∀ b', Cl b b' → Cl b (b'.taken s y) := fun b' h => ⟨h.1, h.2.1, fun _ => rfl⟩
  have hl : ∀ b', Cl b b' → Cl b (b'.logged p x) := fun b' h => h
  have hs : ∀ b', Cl b b' → Cl b (b'.shutP p) := fun b' h => h
  have h1 : Cl b (if b.mode ≠ 1 ∧ b.copied = false then b.taken s y else b) := Cl.ite (ht _ h0) h0
  have h2 : Cl b (if b.mode = 3 then (if b.mode ≠ 1 ∧ b.copied = false then b.taken s y else b).logged p x else (if b.mode ≠ 1 ∧ b.copied = false then b.taken s y else b)) := Cl.ite (hl _ h1) h1
  exact Cl.ite (ht _ (hs _ h2)) (hs _ h2)
/-- CutRises' state: the last copied and the last handed out. -/
structure RI (b : Bk) (c hd : Int) : Prop where
  le : c ≤ b.now
  eq : b.copied = true → c = b.now
  lt : b.copied = false → c < b.now ∨ c = 0
  hle : hd ≤ c
  hlt : b.copied = true → b.given = false → hd < c
  c0 : 0 ≤ c
theorem RI.new (mode : Int) (n : Nat) (back : Int) : RI (Bk.new mode n back) 0 0 := ⟨Int.le_refl _, fun h => rfl, fun _ => .inr rfl, Int.le_refl _, fun h => (by cases h), Int.le_refl _⟩
theorem RI.took {b : Bk} {c hd : Int} (h : RI b c hd) (port : Int) (r : S45) : RI (b.took port r) c hd := by
  unfold Bk.took
  split
  · exact ⟨h.le, h.eq, h.lt, h.hle, h.hlt, h.c0⟩
  · exact h
theorem RI.mark_yes {b : Bk} {c hd : Int} (h : RI b c hd) {port id : Int} {x : List S45} {s : S34} {y : List S45} (hx : b.markC port id x s y = true) : c < id ∧ (b.mark port id x s y).now = id ∧ RI (b.mark port id x s y) id hd := by
  unfold Bk.markC at hx
  simp only [Bool.and_eq_true, Bool.not_eq_true'] at hx
  obtain ⟨⟨h1, h2⟩, h3⟩ := hx
  have hE : b.markE port id = 0 ∧ ¬ id < b.now := by
    unfold Bk.closes at h1
    simp only [Bool.and_eq_true, Bool.not_eq_true', beq_iff_eq, decide_eq_false_iff_not] at h1
    exact h1.1
  have hid : 1 ≤ id := by
    have := hE.1
    unfold Bk.markE at this
    split at this
    · omega
    · split at this
      · omega
      · omega
  have hm : b.mark port id x s y = (b.begun id).close port.toNat x s y := by unfold Bk.mark; rw [if_pos h1]
  obtain ⟨n1, n2, n3⟩ := close_now (b.begun id) port.toNat x s y
  have hn : (b.begun id).now = id := by
    unfold Bk.begun
    split
    · rfl
    · omega
  rw [← hm] at n1 n2 n3
  have hc : c < id := by
    by_cases hlt : b.now < id
    · have := h.le; omega
    · have hb : b.begun id = b := by unfold Bk.begun; rw [if_neg hlt]
      rw [hb] at h3
      rcases h.lt h3 with h4 | h4 <;> omega
  have hh := h.hle
  exact ⟨hc, n1.trans hn, ⟨by rw [n1, hn]; exact Int.le_refl _, fun _ => (n1.trans hn).symm, fun h4 => (by rw [h2] at h4; cases h4), by omega, fun _ _ => by omega, by omega⟩⟩
theorem RI.mark_no {b : Bk} {c hd : Int} (h : RI b c hd) {port id : Int} {x : List S45} {s : S34} {y : List S45} (hx : b.markC port id x s y = false) : RI (b.mark port id x s y) c hd := by
  by_cases h1 : b.closes port id = true
  · have hm : b.mark port id x s y = (b.begun id).close port.toNat x s y := by unfold Bk.mark; rw [if_pos h1]
    obtain ⟨n1, n2, n3⟩ := close_now (b.begun id) port.toNat x s y
    rw [← hm] at n1 n2 n3
    unfold Bk.markC at hx
    rw [h1] at hx
    by_cases hlt : b.now < id
    · have hb : b.begun id = b.freshed id := by unfold Bk.begun; rw [if_pos hlt]
      rw [hb] at n1 n2 n3 hx
      have e1 : (b.freshed id).copied = false := rfl
      have e2 : (b.freshed id).now = id := rfl
      rw [e1] at hx
      have hc : (b.mark port id x s y).copied = false := by simpa using hx
      have := h.le
      rw [e2] at n1
      exact ⟨by omega, fun h4 => (by rw [hc] at h4; cases h4), fun _ => .inl (by omega), h.hle, fun h4 => (by rw [hc] at h4; cases h4), h.c0⟩
    · have hb : b.begun id = b := by unfold Bk.begun; rw [if_neg hlt]
      rw [hb] at n1 n2 n3 hx
      have hc : (b.mark port id x s y).copied = b.copied := by
        rcases hbc : b.copied with _ | _
        · rw [hbc] at hx; simpa using hx
        · exact n3 hbc
      exact ⟨by rw [n1]; exact h.le, fun h4 => by rw [n1]; exact h.eq (hc ▸ h4), fun h4 => by rw [n1]; exact h.lt (hc ▸ h4), h.hle, fun h4 h5 => h.hlt (hc ▸ h4) (n2 ▸ h5), h.c0⟩
  · have hm : b.mark port id x s y = b := by unfold Bk.mark; rw [if_neg h1]
    rw [hm]
    exact h
theorem RI.part {b : Bk} {c hd : Int} (h : RI b c hd) (hr : b.ready = true) : hd < b.now ∧ b.now = c ∧ RI b.handed b.now b.now := by
  unfold Bk.ready at hr
  simp only [Bool.and_eq_true, Bool.not_eq_true'] at hr
  obtain ⟨⟨h1, h2⟩, _⟩ := hr
  have e := h.eq h1
  have := h.hlt h1 h2
  have := h.c0
  exact ⟨by omega, e.symm, ⟨Int.le_refl _, fun _ => rfl, fun h3 => (by rw [show b.handed.copied = b.copied from rfl, h1] at h3; cases h3), Int.le_refl _, fun _ h3 => (by cases h3), by omega⟩⟩
end Go.Proofs.Ytomfknblehkocaa.C
