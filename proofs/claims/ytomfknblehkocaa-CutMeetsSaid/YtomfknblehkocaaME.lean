/- CutMeets' plain law: a snapshot that begins and whose marker comes at every port is copied and handed out. -/
import Derived.Test.YtomfknblehkocaaRI
namespace Go.Proofs.Ytomfknblehkocaa.C
open Go.RowKit Go.Proofs.YtomfknblehkocaaW.PrintWords Go.Proofs.YtomfknblehkocaaW.PrintLast
set_option linter.unusedVariables false
set_option linter.unusedSimpArgs false
/-- The new snapshot is under way; D: the ports whose marker has come. -/
structure Way (b : Bk) (mode back : Int) (n : Nat) (id : Int) (D : Nat → Bool) : Prop where
  now : b.now = id
  ports : ∀ p, p < n → b.ports.getD p 0 = if D p then 1 else 0
  given : b.given = false
  st : b.copied = true → b.st.f0 = 5
  al : mode = 1 → b.copied = b.shutB back
def Meet (b : Bk) (mode back : Int) (n : Nat) (old : Int) (D : Nat → Bool) : Prop :=
  ((∀ p, D p = false) ∧ b.now = old ∧ ∀ q : Nat, q < n → b.held q = false) ∨ (Way b mode back n (old + 1) D ∧ (mode ≠ 1 → b.copied = true))
theorem held_eq {b b' : Bk} (h1 : b'.mode = b.mode) (h2 : b'.now = b.now) (h3 : b'.copied = b.copied) (h4 : b'.ports = b.ports) (q : Int) : b'.held q = b.held q := by
  unfold Bk.held Bk.knows
  rw [h1, h2, h3, h4]
theorem shutB_eq {b b' : Bk} (h : b'.ports = b.ports) (but : Int) : b'.shutB but = b.shutB but := by
  unfold Bk.shutB
  rw [h]
theorem took_keeps (b : Bk) (port : Int) (r : S45) : (b.took port r).mode = b.mode ∧ (b.took port r).now = b.now ∧ (b.took port r).copied = b.copied ∧ (b.took port r).ports = b.ports ∧ (b.took port r).given = b.given ∧ (b.took port r).st = b.st := by
  unfold Bk.took
  split
  · exact ⟨rfl, rfl, rfl, rfl, rfl, rfl⟩
  · exact ⟨rfl, rfl, rfl, rfl, rfl, rfl⟩
theorem Meet.took {b : Bk} {mode back : Int} {n : Nat} {old : Int} {D : Nat → Bool} (h : Meet b mode back n old D) (port : Int) (r : S45) : Meet (b.took port r) mode back n old D := by
  obtain ⟨k1, k2, k3, k4, k5, k6⟩ := took_keeps b port r
  rcases h with ⟨h1, h2, h3⟩ | ⟨⟨h1, h2, h3, h4, h5⟩, h6⟩
  · exact .inl ⟨h1, k2.trans h2, fun q hq => (held_eq k1 k2 k3 k4 _).trans (h3 q hq)⟩
  · refine .inr ⟨⟨k2.trans h1, by rw [k4]; exact h2, k5.trans h3, by rw [k3, k6]; exact h4, by rw [k3, shutB_eq k4]; exact h5⟩, by rw [k3]; exact h6⟩
theorem Meet.free {b : Bk} {mode back : Int} {n N : Nat} {old : Int} {D : Nat → Bool} (h : Meet b mode back n old D) (hf : Fit b mode back n N) (q : Nat) (hq : q < n) (hd : D q = false) : b.knows q = true ∧ b.held q = false := by
  refine ⟨by unfold Bk.knows; rw [hf.p]; simp [hq], ?_⟩
  rcases h with ⟨h1, h2, h3⟩ | ⟨⟨h1, h2, h3, h4, h5⟩, h6⟩
  · exact h3 q hq
  · have := h2 q hq
    rw [hd] at this
    unfold Bk.held
    rw [Int.toNat_natCast, this]
    simp
theorem Meet.took_ok {b : Bk} {mode back : Int} {n N : Nat} {old : Int} {D : Nat → Bool} (h : Meet b mode back n old D) (hf : Fit b mode back n N) (q : Nat) (hq : q < n) (hd : D q = false) : b.tookE q = 0 := by
  obtain ⟨h1, h2⟩ := h.free hf q hq hd
  unfold Bk.tookE
  rw [if_neg (by simp [h1]), if_neg (by simp [h2])]
theorem Meet.mark_ok {b : Bk} {mode back : Int} {n N : Nat} {old : Int} {D : Nat → Bool} (h : Meet b mode back n old D) (hf : Fit b mode back n N) (q : Nat) (hq : q < n) (hd : D q = false) (h0 : 0 ≤ old) (h9 : old < 9999) : b.markE q (old + 1) = 0 := by
  obtain ⟨h1, h2⟩ := h.free hf q hq hd
  unfold Bk.markE
  rw [if_neg (by simp [h1]), if_neg (by omega), if_neg (by simp [h2])]
theorem shutB_mono {b b' : Bk} {but : Int} (hl : b'.ports.length = b.ports.length) (h : ∀ p, p < b.ports.length → b'.ports.getD p 0 = 0 → b.ports.getD p 0 = 0) (hb : b.shutB but = true) : b'.shutB but = true := by
  refine Bk.shutB_true fun i hi h0 => ?_
  by_cases he : (i : Int) = but
  · exact he
  · rw [hl] at hi
    rw [Bk.shutB_false i hi (h i hi h0) he] at hb
    cases hb
theorem Way.close {b : Bk} {mode back : Int} {n N : Nat} {id : Int} {D : Nat → Bool} (h : Way b mode back n id D) (hf : Fit b mode back n N) (p : Nat) (hp : p < n) (x y : List S45) :
    Way (b.close p x ⟨5, []⟩ y) mode back n id (fun k => if k = p then true else D k) ∧ (mode ≠ 1 → (b.close p x ⟨5, []⟩ y).copied = true) := by
  have hpt : ∀ b' : Bk, b'.ports = b.ports.set p 1 → ∀ q, q < n → b'.ports.getD q 0 = if (if q = p then true else D q) then 1 else 0 := by
    intro b' hb q hq
    rw [hb]
    by_cases hqp : q = p
    · subst hqp
      rw [getD_set_eq _ _ _ _ (by rw [hf.p]; exact hp), if_pos rfl, if_pos rfl]
    · rw [getD_set_ne _ _ _ _ _ hqp, if_neg hqp]
      exact h.ports q hq
  have hmode := hf.m
  have hmono : ∀ b' : Bk, b'.ports = b.ports.set p 1 → b.shutB back = true → b'.shutB back = true := fun b' hb hs => by
    refine shutB_mono (by rw [hb, List.length_set]) (fun q hq h0 => ?_) hs
    rw [hb] at h0
    by_cases hqp : q = p
    · subst hqp
      rw [getD_set_eq _ _ _ _ hq] at h0
      omega
    · rw [getD_set_ne _ _ _ _ _ hqp] at h0
      exact h0
  have hbk := hf.bk
  by_cases hm : mode = 1
  · have hm' : b.mode = 1 := hmode.trans hm
    rcases hc : b.copied with _ | _
    · rcases hs : (b.shutP p).shutB b.back with _ | _
      · have e : b.close p x ⟨5, []⟩ y = b.shutP p := by unfold Bk.close; simp [hm', hc, hs]
        rw [e]
        refine ⟨⟨h.now, hpt _ rfl, h.given, fun h2 => h.st h2, fun _ => ?_⟩, fun h2 => absurd hm h2⟩
        rw [← hbk, hs]
        exact hc
      · have e : b.close p x ⟨5, []⟩ y = (b.shutP p).taken ⟨5, []⟩ y := by unfold Bk.close; simp [hm', hc, hs]
        rw [e]
        refine ⟨⟨h.now, hpt _ rfl, h.given, fun _ => rfl, fun _ => ?_⟩, fun h2 => absurd hm h2⟩
        rw [← hbk]
        exact hs.symm
    · have e : b.close p x ⟨5, []⟩ y = b.shutP p := by unfold Bk.close; simp [hm', hc]
      rw [e]
      refine ⟨⟨h.now, hpt _ rfl, h.given, fun _ => h.st hc, fun _ => ?_⟩, fun h2 => absurd hm h2⟩
      have h2 := h.al hm
      rw [hc] at h2
      exact hc.trans (hmono (b.shutP p) rfl h2.symm).symm
  · have hm' : b.mode ≠ 1 := fun e => hm (hmode.symm.trans e)
    rcases hc : b.copied with _ | _
    · by_cases h3 : b.mode = 3
      · have e : b.close p x ⟨5, []⟩ y = ((b.taken ⟨5, []⟩ y).logged p x).shutP p := by unfold Bk.close; simp [h3, hc]
        rw [e]
        exact ⟨⟨h.now, hpt _ rfl, h.given, fun _ => rfl, fun h2 => absurd h2 hm⟩, fun _ => rfl⟩
      · have e : b.close p x ⟨5, []⟩ y = (b.taken ⟨5, []⟩ y).shutP p := by unfold Bk.close; simp [hm', h3, hc]
        rw [e]
        exact ⟨⟨h.now, hpt _ rfl, h.given, fun _ => rfl, fun h2 => absurd h2 hm⟩, fun _ => rfl⟩
    · by_cases h3 : b.mode = 3
      · have e : b.close p x ⟨5, []⟩ y = (b.logged p x).shutP p := by unfold Bk.close; simp [h3, hc]
        rw [e]
        exact ⟨⟨h.now, hpt _ rfl, h.given, fun _ => h.st hc, fun h2 => absurd h2 hm⟩, fun _ => hc⟩
      · have e : b.close p x ⟨5, []⟩ y = b.shutP p := by unfold Bk.close; simp [hm', h3, hc]
        rw [e]
        exact ⟨⟨h.now, hpt _ rfl, h.given, fun _ => h.st hc, fun h2 => absurd h2 hm⟩, fun _ => hc⟩
theorem fresh_way {b : Bk} {mode back : Int} {n N : Nat} {id : Int} {D : Nat → Bool} (hD : ∀ p, D p = false) (hf : Fit b mode back n N) (hn : 1 ≤ n) (hb : -1 ≤ back) (hbn : ¬ (back = 0 ∧ n = 1)) : Way (b.freshed id) mode back n id D := by
  have hlen : (b.freshed id).ports.length = n := by unfold Bk.freshed; simp only [List.length_replicate]; exact hf.p
  have h0 : ∀ p, (b.freshed id).ports.getD p 0 = 0 := fun p => by
    unfold Bk.freshed
    rw [List.getD_eq_getElem?_getD, List.getElem?_replicate]
    split <;> rfl
  refine ⟨rfl, fun p _ => ?_, rfl, fun h => (by cases h), fun _ => ?_⟩
  · rw [hD, h0]; rfl
  · by_cases h2 : back = 0
    · exact (Bk.shutB_false 1 (by rw [hlen]; omega) (h0 1) (by omega)).symm
    · exact (Bk.shutB_false 0 (by rw [hlen]; omega) (h0 0) (by omega)).symm
theorem Meet.mark {b : Bk} {mode back : Int} {n N : Nat} {old : Int} {D : Nat → Bool} (h : Meet b mode back n old D) (hf : Fit b mode back n N) (p : Nat) (hp : p < n) (hd : D p = false) (h0 : 0 ≤ old) (h9 : old < 9999)
    (hn : 1 ≤ n) (hb : -1 ≤ back) (hbn : ¬ (back = 0 ∧ n = 1)) : Meet (b.mark p (old + 1) [] ⟨5, []⟩ []) mode back n old (fun k => if k = p then true else D k) := by
  have hE := h.mark_ok hf p hp hd h0 h9
  have hw : Way (b.begun (old + 1)) mode back n (old + 1) D ∧ Fit (b.begun (old + 1)) mode back n N ∧ ¬ (old + 1 < b.now) := by
    rcases h with ⟨h1, h2, h3⟩ | ⟨h1, h6⟩
    · have e : b.begun (old + 1) = b.freshed (old + 1) := by unfold Bk.begun; rw [if_pos (by omega)]
      rw [e]
      exact ⟨fresh_way h1 hf hn hb hbn, (hf.freshed _).mono (Nat.zero_le _), by omega⟩
    · have e : b.begun (old + 1) = b := by unfold Bk.begun; rw [if_neg (by have := h1.now; omega)]
      rw [e]
      exact ⟨h1, hf, by have := h1.now; omega⟩
  have hpp := hw.1.ports p hp
  rw [hd] at hpp
  have hc : b.closes p (old + 1) = true := by
    unfold Bk.closes
    rw [hE, Int.toNat_natCast, hpp]
    simp [hw.2.2]
  have e : b.mark p (old + 1) [] ⟨5, []⟩ [] = (b.begun (old + 1)).close p [] ⟨5, []⟩ [] := by unfold Bk.mark; rw [if_pos hc, Int.toNat_natCast]
  rw [e]
  exact .inr (hw.1.close hw.2.1 p hp [] [])
theorem Meet.end_ {b : Bk} {mode back : Int} {n N : Nat} {old : Int} {D : Nat → Bool} (h : Meet b mode back n old D) (hf : Fit b mode back n N) (hn : 1 ≤ n) (hD : ∀ p, p < n → D p = true) : b.ready = true ∧ b.now = old + 1 ∧ b.st.f0 = 5 := by
  rcases h with ⟨h1, _⟩ | ⟨h1, h6⟩
  · have := hD 0 (by omega)
    rw [h1] at this
    cases this
  · have hs : ∀ but, b.shutB but = true := fun but => Bk.shutB_true fun i hi h0 => by
      rw [hf.p] at hi
      have := h1.ports i hi
      rw [hD i hi, h0] at this
      cases this
    have hc : b.copied = true := by
      by_cases hm : mode = 1
      · rw [h1.al hm]; exact hs back
      · exact h6 hm
    refine ⟨?_, h1.now, h1.st hc⟩
    unfold Bk.ready
    rw [hc, h1.given, hs]
    rfl
/-- How many of the first n are done. -/
def cnt (D : Nat → Bool) : Nat → Nat
  | 0 => 0
  | n + 1 => cnt D n + (if D n then 1 else 0)
theorem cnt_le (D : Nat → Bool) : ∀ n, cnt D n ≤ n
  | 0 => Nat.le_refl _
  | n + 1 => by have := cnt_le D n; unfold cnt; split <;> omega
theorem cnt_all {D : Nat → Bool} : ∀ {n}, n ≤ cnt D n → ∀ p, p < n → D p = true
  | 0, _, p, hp => absurd hp (Nat.not_lt_zero _)
  | n + 1, h, p, hp => by
    have h1 := cnt_le D n
    unfold cnt at h
    by_cases hd : D n = true
    · rw [if_pos hd] at h
      rcases Nat.lt_succ_iff_lt_or_eq.1 hp with h2 | rfl
      · exact cnt_all (by omega) p h2
      · exact hd
    · rw [if_neg hd] at h; omega
theorem cnt_set {D : Nat → Bool} {p : Nat} (hd : D p = false) : ∀ n, cnt (fun k => if k = p then true else D k) n = cnt D n + (if p < n then 1 else 0)
  | 0 => by simp [cnt]
  | n + 1 => by
    have ih := cnt_set hd n
    show cnt (fun k => if k = p then true else D k) n + (if (if n = p then true else D n) then 1 else 0) = cnt D n + (if D n then 1 else 0) + _
    rw [ih]
    by_cases h1 : n = p
    · subst h1
      rw [if_pos rfl, hd, if_neg (Nat.lt_irrefl _), if_pos (Nat.lt_succ_self _)]
      simp
    · rw [if_neg h1]
      by_cases h2 : p < n
      · have e1 : (if p < n then 1 else 0) = 1 := if_pos h2
        have e2 : (if p < n + 1 then 1 else 0) = 1 := if_pos (by omega)
        rw [e1, e2]; omega
      · have e1 : (if p < n then 1 else 0) = 0 := if_neg h2
        have e2 : (if p < n + 1 then 1 else 0) = 0 := if_neg (by omega)
        rw [e1, e2]; omega
end Go.Proofs.Ytomfknblehkocaa.C
