/- Rising lists and what Join and Apply make of them; no program in sight. -/
import Derived.Test.YtpplnhefpcofoaaZCF
import Derived.Test.YtpplnhefpcofoaaZCS
namespace Go.Proofs.Ytpplnhefpcofoaa.PDeltaJoin
set_option linter.unusedVariables false
set_option linter.unusedSimpArgs false
theorem kle_lt {a b : ByteArray} : kle a b = false ↔ b.toList < a.toList := by
  unfold kle
  rw [bytesLess_lt]
  simp only [Bool.or_eq_false_iff, decide_eq_false_iff_not, beq_eq_false_iff_ne, ne_eq]
  constructor
  · rintro ⟨h1, h2⟩
    rcases Std.lt_trichotomy a.toList b.toList with h | h | h
    · exact absurd h h1
    · exact absurd h h2
    · exact h
  · intro h
    exact ⟨fun h1 => List.lt_irrefl _ (List.lt_trans h h1), fun h1 => List.lt_irrefl a.toList (by rw [← h1] at h; exact h)⟩
theorem kle_anti {a b : ByteArray} (h1 : kle a b = true) (h2 : kle b a = true) : a = b := by
  have n1 : ¬ b.toList < a.toList := fun h => by rw [kle_lt.2 h] at h1; cases h1
  have n2 : ¬ a.toList < b.toList := fun h => by rw [kle_lt.2 h] at h2; cases h2
  rcases Std.lt_trichotomy a.toList b.toList with h | h | h
  · exact absurd h n2
  · exact Classical.byContradiction fun hne => text_ne hne h
  · exact absurd h n1
def klt (a b : ByteArray) : Prop := a.toList < b.toList
theorem klt_trans {a b c : ByteArray} (h : klt a b) (k : klt b c) : klt a c := List.lt_trans h k
theorem klt_irrefl (a : ByteArray) : ¬ klt a a := List.lt_irrefl _
theorem klt_ne {a b : ByteArray} (h : klt a b) : a ≠ b := fun e => klt_irrefl b (by rw [e] at h; exact h)
/-- Strictly rising. -/
def Ris {α : Type} (key : α → ByteArray) (l : List α) : Prop := l.Pairwise fun x y => klt (key x) (key y)
theorem Ris.ext {α : Type} {key : α → ByteArray} : ∀ {l m : List α}, Ris key l → Ris key m → (∀ x, x ∈ l ↔ x ∈ m) → l = m
  | [], [], _, _, _ => rfl
  | [], y :: m, _, _, h => by have := (h y).2 (by simp); cases this
  | x :: l, [], _, _, h => by have := (h x).1 (by simp); cases this
  | x :: l, y :: m, hl, hm, h => by
    have hl' := List.pairwise_cons.1 hl
    have hm' := List.pairwise_cons.1 hm
    have e : x = y := by
      rcases List.mem_cons.1 ((h x).1 (by simp)) with e | e
      · exact e
      rcases List.mem_cons.1 ((h y).2 (by simp)) with e2 | e2
      · exact e2.symm
      exact absurd (klt_trans (hm'.1 x e) (hl'.1 y e2)) (klt_irrefl _)
    subst e
    rw [Ris.ext hl'.2 hm'.2 (fun z => ?_)]
    constructor
    · intro hz
      rcases List.mem_cons.1 ((h z).1 (List.mem_cons_of_mem _ hz)) with e | e
      · exact absurd (by rw [e] : key x = key z) (klt_ne (hl'.1 z hz))
      · exact e
    · intro hz
      rcases List.mem_cons.1 ((h z).2 (List.mem_cons_of_mem _ hz)) with e | e
      · exact absurd (by rw [e] : key x = key z) (klt_ne (hm'.1 z hz))
      · exact e
theorem Ris.one {α : Type} {key : α → ByteArray} {l : List α} (h : Ris key l) {x y : α} (hx : x ∈ l) (hy : y ∈ l) (e : key x = key y) : x = y := by
  induction l with
  | nil => cases hx
  | cons z l ih =>
    have h' := List.pairwise_cons.1 h
    rcases List.mem_cons.1 hx with ex | hx2
    · rcases List.mem_cons.1 hy with ey | hy2
      · rw [ex, ey]
      · subst ex; exact absurd e (klt_ne (h'.1 y hy2))
    · rcases List.mem_cons.1 hy with ey | hy2
      · subst ey; exact absurd e.symm (klt_ne (h'.1 x hx2))
      · exact ih h'.2 hx2 hy2
theorem Ris.filterMap {α β : Type} {key : α → ByteArray} {key' : β → ByteArray} {f : α → Option β} (hf : ∀ x y, f x = some y → key' y = key x) {l : List α} (h : Ris key l) : Ris key' (l.filterMap f) := by
  refine List.Pairwise.filterMap f ?_ h
  intro a a' haa b hb b' hb'
  rw [hf _ _ hb, hf _ _ hb']
  exact haa
def kC (c : S63) : ByteArray := c.f0
def kS (k : ByteArray) : ByteArray := k
/-- Does a key stand in the cells? -/
def inC (l : List S63) (k : ByteArray) : Prop := ∃ c, c ∈ l ∧ c.f0 = k
def inS (l : List ByteArray) (k : ByteArray) : Prop := ∃ c, c ∈ l ∧ c = k
theorem inS_iff (l : List ByteArray) (k : ByteArray) : inS l k ↔ k ∈ l := ⟨fun ⟨c, h, e⟩ => by rw [← e]; exact h, fun h => ⟨k, h, rfl⟩⟩
theorem fS_zero {l : List S63} {k : ByteArray} : fS l k = 0 ↔ ¬ inC l k := by
  unfold fS inC
  split
  · rename_i h
    obtain ⟨c, hc, e⟩ := List.any_eq_true.1 h
    exact ⟨fun h => by simp at h, fun h => absurd ⟨c, hc, of_decide_eq_true e⟩ h⟩
  · rename_i h
    exact ⟨fun _ ⟨c, hc, e⟩ => h (List.any_eq_true.2 ⟨c, hc, decide_eq_true e⟩), fun _ => rfl⟩
theorem fG_zero {l : List ByteArray} {k : ByteArray} : fG l k = 0 ↔ k ∉ l := by
  unfold fG
  split
  · rename_i h
    obtain ⟨c, hc, e⟩ := List.any_eq_true.1 h
    exact ⟨fun h => by simp at h, fun h => absurd (by rw [← of_decide_eq_true e]; exact hc) h⟩
  · rename_i h
    exact ⟨fun _ hc => h (List.any_eq_true.2 ⟨k, hc, decide_eq_true rfl⟩), fun _ => rfl⟩
theorem fS_01 (l : List S63) (k : ByteArray) : fS l k = 0 ∨ fS l k = 1 := by unfold fS; split <;> simp
theorem fG_01 (l : List ByteArray) (k : ByteArray) : fG l k = 0 ∨ fG l k = 1 := by unfold fG; split <;> simp
theorem chkCells_ris : ∀ (l : List S63) (p : Option ByteArray), chkCells p l = 0 → Ris kC l ∧ ∀ q, p = some q → ∀ c ∈ l, klt q c.f0
  | [], _, _ => ⟨List.Pairwise.nil, fun _ _ c hc => by cases hc⟩
  | c :: l, p, h => by
    rw [chkCells_cons] at h
    split at h
    · simp at h
    split at h
    · simp at h
    rename_i hn
    split at h
    · simp at h
    split at h
    · rename_i hv; exact absurd h hv
    obtain ⟨h1, h2⟩ := chkCells_ris l _ h
    have hq : ∀ q, p = some q → klt q c.f0 := by
      intro q e
      subst e
      exact kle_lt.1 (by simpa [notAbove] using hn)
    refine ⟨List.pairwise_cons.2 ⟨fun d hd => h2 _ rfl d hd, h1⟩, fun q e d hd => ?_⟩
    rcases List.mem_cons.1 hd with e2 | hd
    · rw [e2]; exact hq q e
    · exact klt_trans (hq q e) (h2 _ rfl d hd)
theorem chkGone_ris (f : ByteArray → Int) : ∀ (l : List ByteArray) (p : Option ByteArray), chkGone f p l = 0 → Ris kS l ∧ (∀ q, p = some q → ∀ c ∈ l, klt q c) ∧ ∀ c ∈ l, f c ≠ 1
  | [], _, _ => ⟨List.Pairwise.nil, fun _ _ c hc => (by cases hc), fun c hc => (by cases hc)⟩
  | c :: l, p, h => by
    rw [chkGone] at h
    split at h
    · simp at h
    split at h
    · simp at h
    rename_i hn
    obtain ⟨h1, h2, h3⟩ := chkGone_ris f l _ h
    have hq : ∀ q, p = some q → klt q c := by
      intro q e
      subst e
      exact kle_lt.1 (by have : ¬ notAbove (some q) c = true := fun h => hn (.inl h); simpa [notAbove] using this)
    refine ⟨List.pairwise_cons.2 ⟨fun d hd => h2 _ rfl d hd, h1⟩, fun q e d hd => ?_, fun d hd => ?_⟩
    · rcases List.mem_cons.1 hd with e2 | hd
      · rw [e2]; exact hq q e
      · exact klt_trans (hq q e) (h2 _ rfl d hd)
    · rcases List.mem_cons.1 hd with e2 | hd
      · rw [e2]; exact fun h => hn (.inr h)
      · exact h3 d hd
theorem chkS_ris {num : Int} {l : List S63} (h : chkS num l = 0) : Ris kC l := (chkCells_ris l none (chkS_ok h).2.1).1
theorem chkD_ris {num : Int} {set : List S63} {gone : List ByteArray} (h : chkD num set gone = 0) : Ris kC set ∧ Ris kS gone ∧ ∀ k ∈ gone, ¬ inC set k := by
  have h0 := (chkD_ok h).1
  unfold chkD at h
  rw [if_neg (by rw [h0]; simp)] at h
  split at h
  · simp at h
  obtain ⟨h1, h2, h3⟩ := chkGone_ris _ _ _ h
  exact ⟨chkS_ris h0, h1, fun k hk => fS_zero.1 ((fS_01 set k).resolve_right (h3 k hk))⟩
/-! the merged list: C -/
def pkC (p : MPC) : ByteArray := if p.isR = true then p.r.f0 else p.l.f0
/-- What stands in the merged list of two rising lists. -/
def AtC (a b : List S63) (p : MPC) : Prop :=
  (p.isR = true ∧ p.r ∈ b ∧ ((p.isL = true ∧ p.l ∈ a ∧ p.l.f0 = p.r.f0) ∨ (p.isL = false ∧ ¬ inC a (p.r.f0)))) ∨ (p.isR = false ∧ p.isL = true ∧ p.l ∈ a ∧ ¬ inC b (p.l.f0))
theorem mrgC_at : ∀ (n : Nat) (a b : List S63), a.length + b.length ≤ n → Ris kC a → Ris kC b → ∀ p ∈ mrgC a b, AtC a b p
  | _, [], [], _, _, _, p, hp => by rw [mrgC_nil] at hp; cases hp
  | 0, _ :: _, _, h, _, _, _, _ => by simp at h
  | 0, [], _ :: _, h, _, _, _, _ => by simp at h
  | n + 1, x :: a, [], h, ha, hb, p, hp => by
    rw [mrgC_l] at hp
    rcases List.mem_cons.1 hp with rfl | hp
    · exact .inr ⟨rfl, rfl, by simp, fun ⟨c, hc, _⟩ => by cases hc⟩
    · rcases mrgC_at n a [] (by simp at h ⊢; omega) (List.pairwise_cons.1 ha).2 hb p hp with ⟨_, h2, _⟩ | ⟨h1, h2, h3, h4⟩
      · cases h2
      · exact .inr ⟨h1, h2, List.mem_cons_of_mem _ h3, h4⟩
  | n + 1, [], y :: b, h, ha, hb, p, hp => by
    rw [mrgC_r] at hp
    rcases List.mem_cons.1 hp with rfl | hp
    · exact .inl ⟨rfl, by simp, .inr ⟨rfl, fun ⟨c, hc, _⟩ => by cases hc⟩⟩
    · rcases mrgC_at n [] b (by simp at h ⊢; omega) ha (List.pairwise_cons.1 hb).2 p hp with ⟨h1, h2, h3⟩ | ⟨_, _, h3, _⟩
      · exact .inl ⟨h1, List.mem_cons_of_mem _ h2, h3⟩
      · cases h3
  | n + 1, x :: a, y :: b, h, ha, hb, p, hp => by
    have ha' := List.pairwise_cons.1 ha
    have hb' := List.pairwise_cons.1 hb
    rw [mrgC] at hp
    simp only [List.length_cons] at h
    split at hp
    · rename_i h1
      split at hp
      · rename_i h2
        have e := kle_anti h1 h2
        rcases List.mem_cons.1 hp with rfl | hp
        · exact .inl ⟨rfl, by simp, .inl ⟨rfl, by simp, e⟩⟩
        · rcases mrgC_at n a b (by omega) ha'.2 hb'.2 p hp with ⟨j1, j2, j3⟩ | ⟨j1, j2, j3, j4⟩
          · refine .inl ⟨j1, List.mem_cons_of_mem _ j2, ?_⟩
            rcases j3 with ⟨h3, h4, h5⟩ | ⟨h3, h4⟩
            · exact .inl ⟨h3, List.mem_cons_of_mem _ h4, h5⟩
            · refine .inr ⟨h3, fun ⟨c, hc, ec⟩ => ?_⟩
              rcases List.mem_cons.1 hc with e2 | hc
              · subst e2
                have := hb'.1 p.r j2
                exact klt_ne this (by show y.f0 = p.r.f0; rw [← ec]; exact e.symm)
              · exact h4 ⟨c, hc, ec⟩
          · refine .inr ⟨j1, j2, List.mem_cons_of_mem _ j3, fun ⟨c, hc, ec⟩ => ?_⟩
            rcases List.mem_cons.1 hc with e2 | hc
            · subst e2
              exact klt_ne (ha'.1 p.l j3) (by show x.f0 = p.l.f0; rw [← ec]; exact e)
            · exact j4 ⟨c, hc, ec⟩
      · rename_i h2
        have hlt : klt (x.f0) (y.f0) := kle_lt.1 (by simpa using h2)
        rcases List.mem_cons.1 hp with rfl | hp
        · refine .inr ⟨rfl, rfl, by simp, fun ⟨c, hc, ec⟩ => ?_⟩
          rcases List.mem_cons.1 hc with e2 | hc
          · subst e2; exact klt_ne hlt ec.symm
          · exact klt_ne (klt_trans hlt (hb'.1 c hc)) ec.symm
        · rcases mrgC_at n a (y :: b) (by simp only [List.length_cons]; omega) ha'.2 hb p hp with ⟨j1, j2, j3⟩ | ⟨h1, h2, h3, h4⟩
          · refine .inl ⟨j1, j2, ?_⟩
            rcases j3 with ⟨h3, h4, h5⟩ | ⟨h3, h4⟩
            · exact .inl ⟨h3, List.mem_cons_of_mem _ h4, h5⟩
            · refine .inr ⟨h3, fun ⟨c, hc, ec⟩ => ?_⟩
              rcases List.mem_cons.1 hc with e2 | hc
              · subst e2
                rcases List.mem_cons.1 j2 with e3 | j2
                · rw [e3] at ec; exact klt_ne hlt ec
                · exact klt_ne (klt_trans hlt (hb'.1 p.r j2)) ec
              · exact h4 ⟨c, hc, ec⟩
          · exact .inr ⟨h1, h2, List.mem_cons_of_mem _ h3, h4⟩
    · rename_i h1
      have hlt : klt (y.f0) (x.f0) := kle_lt.1 (by simpa using h1)
      rcases List.mem_cons.1 hp with rfl | hp
      · refine .inl ⟨rfl, by simp, .inr ⟨rfl, fun ⟨c, hc, ec⟩ => ?_⟩⟩
        rcases List.mem_cons.1 hc with e2 | hc
        · subst e2; exact klt_ne hlt ec.symm
        · exact klt_ne (klt_trans hlt (ha'.1 c hc)) ec.symm
      · rcases mrgC_at n (x :: a) b (by simp only [List.length_cons]; omega) ha hb'.2 p hp with ⟨h1, h2, h3⟩ | ⟨h1, h2, h3, h4⟩
        · exact .inl ⟨h1, List.mem_cons_of_mem _ h2, h3⟩
        · refine .inr ⟨h1, h2, h3, fun ⟨c, hc, ec⟩ => ?_⟩
          rcases List.mem_cons.1 hc with e2 | hc
          · subst e2
            rcases List.mem_cons.1 h3 with e3 | h3
            · rw [e3] at ec; exact klt_ne hlt ec
            · exact klt_ne (klt_trans hlt (ha'.1 p.l h3)) ec
          · exact h4 ⟨c, hc, ec⟩
/-- Every element of the two stands in it. -/
theorem mrgC_all : ∀ (n : Nat) (a b : List S63), a.length + b.length ≤ n → (∀ y ∈ b, ∃ p ∈ mrgC a b, p.isR = true ∧ p.r = y) ∧ (∀ x ∈ a, ∃ p ∈ mrgC a b, p.isL = true ∧ p.l = x)
  | _, [], [], _ => ⟨fun _ h => (by cases h), fun _ h => (by cases h)⟩
  | 0, _ :: _, _, h => by simp at h
  | 0, [], _ :: _, h => by simp at h
  | n + 1, x :: a, [], h => by
    obtain ⟨i1, i2⟩ := mrgC_all n a [] (by simp at h ⊢; omega)
    rw [mrgC_l]
    refine ⟨fun _ h => (by cases h), fun z hz => ?_⟩
    rcases List.mem_cons.1 hz with rfl | hz
    · exact ⟨_, List.mem_cons_self, rfl, rfl⟩
    · obtain ⟨p, hp, h1, h2⟩ := i2 z hz; exact ⟨p, List.mem_cons_of_mem _ hp, h1, h2⟩
  | n + 1, [], y :: b, h => by
    obtain ⟨i1, i2⟩ := mrgC_all n [] b (by simp at h ⊢; omega)
    rw [mrgC_r]
    refine ⟨fun z hz => ?_, fun _ h => (by cases h)⟩
    rcases List.mem_cons.1 hz with rfl | hz
    · exact ⟨_, List.mem_cons_self, rfl, rfl⟩
    · obtain ⟨p, hp, h1, h2⟩ := i1 z hz; exact ⟨p, List.mem_cons_of_mem _ hp, h1, h2⟩
  | n + 1, x :: a, y :: b, h => by
    rw [mrgC]
    simp only [List.length_cons] at h
    split
    · split
      · obtain ⟨i1, i2⟩ := mrgC_all n a b (by omega)
        refine ⟨fun z hz => ?_, fun z hz => ?_⟩
        · rcases List.mem_cons.1 hz with rfl | hz
          · exact ⟨_, List.mem_cons_self, rfl, rfl⟩
          · obtain ⟨p, hp, h1, h2⟩ := i1 z hz; exact ⟨p, List.mem_cons_of_mem _ hp, h1, h2⟩
        · rcases List.mem_cons.1 hz with rfl | hz
          · exact ⟨_, List.mem_cons_self, rfl, rfl⟩
          · obtain ⟨p, hp, h1, h2⟩ := i2 z hz; exact ⟨p, List.mem_cons_of_mem _ hp, h1, h2⟩
      · obtain ⟨i1, i2⟩ := mrgC_all n a (y :: b) (by simp only [List.length_cons]; omega)
        refine ⟨fun z hz => ?_, fun z hz => ?_⟩
        · obtain ⟨p, hp, h1, h2⟩ := i1 z hz; exact ⟨p, List.mem_cons_of_mem _ hp, h1, h2⟩
        · rcases List.mem_cons.1 hz with rfl | hz
          · exact ⟨_, List.mem_cons_self, rfl, rfl⟩
          · obtain ⟨p, hp, h1, h2⟩ := i2 z hz; exact ⟨p, List.mem_cons_of_mem _ hp, h1, h2⟩
    · obtain ⟨i1, i2⟩ := mrgC_all n (x :: a) b (by simp only [List.length_cons]; omega)
      refine ⟨fun z hz => ?_, fun z hz => ?_⟩
      · rcases List.mem_cons.1 hz with rfl | hz
        · exact ⟨_, List.mem_cons_self, rfl, rfl⟩
        · obtain ⟨p, hp, h1, h2⟩ := i1 z hz; exact ⟨p, List.mem_cons_of_mem _ hp, h1, h2⟩
      · obtain ⟨p, hp, h1, h2⟩ := i2 z hz; exact ⟨p, List.mem_cons_of_mem _ hp, h1, h2⟩
theorem AtC.key {a b : List S63} {p : MPC} (h : AtC a b p) : inC a (pkC p) ∨ inC b (pkC p) := by
  rcases h with ⟨h1, h2, _⟩ | ⟨h1, h2, h3, _⟩
  · exact .inr ⟨p.r, h2, by unfold pkC; rw [if_pos h1]⟩
  · exact .inl ⟨p.l, h3, by unfold pkC; rw [if_neg (by rw [h1]; simp)]⟩
theorem mrgC_ris : ∀ (n : Nat) (a b : List S63), a.length + b.length ≤ n → Ris kC a → Ris kC b → Ris pkC (mrgC a b)
  | _, [], [], _, _, _ => by rw [mrgC_nil]; exact List.Pairwise.nil
  | 0, _ :: _, _, h, _, _ => by simp at h
  | 0, [], _ :: _, h, _, _ => by simp at h
  | n + 1, x :: a, [], h, ha, hb => by
    have ha' := List.pairwise_cons.1 ha
    rw [mrgC_l]
    refine List.pairwise_cons.2 ⟨fun p hp => ?_, mrgC_ris n a [] (by simp at h ⊢; omega) ha'.2 hb⟩
    rcases (mrgC_at _ a [] (Nat.le_refl _) ha'.2 hb p hp).key with ⟨c, hc, e⟩ | ⟨c, hc, _⟩
    · rw [← e]; exact ha'.1 c hc
    · cases hc
  | n + 1, [], y :: b, h, ha, hb => by
    have hb' := List.pairwise_cons.1 hb
    rw [mrgC_r]
    refine List.pairwise_cons.2 ⟨fun p hp => ?_, mrgC_ris n [] b (by simp at h ⊢; omega) ha hb'.2⟩
    rcases (mrgC_at _ [] b (Nat.le_refl _) ha hb'.2 p hp).key with ⟨c, hc, _⟩ | ⟨c, hc, e⟩
    · cases hc
    · rw [← e]; exact hb'.1 c hc
  | n + 1, x :: a, y :: b, h, ha, hb => by
    have ha' := List.pairwise_cons.1 ha
    have hb' := List.pairwise_cons.1 hb
    rw [mrgC]
    simp only [List.length_cons] at h
    split
    · rename_i h1
      split
      · rename_i h2
        have e := kle_anti h1 h2
        refine List.pairwise_cons.2 ⟨fun p hp => ?_, mrgC_ris n a b (by omega) ha'.2 hb'.2⟩
        rcases (mrgC_at _ a b (Nat.le_refl _) ha'.2 hb'.2 p hp).key with ⟨c, hc, e2⟩ | ⟨c, hc, e2⟩
        · rw [← e2]; show klt (y.f0) _; rw [← e]; exact ha'.1 c hc
        · rw [← e2]; exact hb'.1 c hc
      · rename_i h2
        have hlt : klt (x.f0) (y.f0) := kle_lt.1 (by simpa using h2)
        refine List.pairwise_cons.2 ⟨fun p hp => ?_, mrgC_ris n a (y :: b) (by simp only [List.length_cons]; omega) ha'.2 hb⟩
        rcases (mrgC_at _ a (y :: b) (Nat.le_refl _) ha'.2 hb p hp).key with ⟨c, hc, e2⟩ | ⟨c, hc, e2⟩
        · rw [← e2]; exact ha'.1 c hc
        · rw [← e2]
          rcases List.mem_cons.1 hc with e3 | hc
          · rw [e3]; exact hlt
          · exact klt_trans hlt (hb'.1 c hc)
    · rename_i h1
      have hlt : klt (y.f0) (x.f0) := kle_lt.1 (by simpa using h1)
      refine List.pairwise_cons.2 ⟨fun p hp => ?_, mrgC_ris n (x :: a) b (by simp only [List.length_cons]; omega) ha hb'.2⟩
      rcases (mrgC_at _ (x :: a) b (Nat.le_refl _) ha hb'.2 p hp).key with ⟨c, hc, e2⟩ | ⟨c, hc, e2⟩
      · rw [← e2]
        rcases List.mem_cons.1 hc with e3 | hc
        · rw [e3]; exact hlt
        · exact klt_trans hlt (ha'.1 c hc)
      · rw [← e2]; exact hb'.1 c hc
/-- One law for what a keeping makes of the merged list. -/
theorem mrgC_keep {β : Type} {a b : List S63} (ha : Ris kC a) (hb : Ris kC b) (f : MPC → Option β) (z : β) :
    z ∈ (mrgC a b).filterMap f ↔ ∃ p, p ∈ mrgC a b ∧ AtC a b p ∧ f p = some z := by
  rw [List.mem_filterMap]
  exact ⟨fun ⟨p, hp, e⟩ => ⟨p, hp, mrgC_at _ a b (Nat.le_refl _) ha hb p hp, e⟩, fun ⟨p, hp, _, e⟩ => ⟨p, hp, e⟩⟩
theorem mrgC_hasR {a b : List S63} (ha : Ris kC a) (hb : Ris kC b) {y : S63} (hy : y ∈ b) : ∃ p, p ∈ mrgC a b ∧ AtC a b p ∧ p.isR = true ∧ p.r = y := by
  obtain ⟨p, hp, h1, h2⟩ := (mrgC_all _ a b (Nat.le_refl _)).1 y hy
  exact ⟨p, hp, mrgC_at _ a b (Nat.le_refl _) ha hb p hp, h1, h2⟩
theorem mrgC_hasL {a b : List S63} (ha : Ris kC a) (hb : Ris kC b) {x : S63} (hx : x ∈ a) (hn : ¬ inC b (x.f0)) : ∃ p, p ∈ mrgC a b ∧ AtC a b p ∧ p.isR = false ∧ p.isL = true ∧ p.l = x := by
  obtain ⟨p, hp, h1, h2⟩ := (mrgC_all _ a b (Nat.le_refl _)).2 x hx
  have hat := mrgC_at _ a b (Nat.le_refl _) ha hb p hp
  refine ⟨p, hp, hat, ?_, h1, h2⟩
  cases hr : p.isR with
  | false => rfl
  | true =>
    rcases hat with ⟨_, h3, h4⟩ | ⟨h3, _⟩
    · rcases h4 with ⟨_, h5, h6⟩ | ⟨h5, _⟩
      · exact absurd ⟨p.r, h3, by rw [← h2]; exact h6.symm⟩ hn
      · rw [h1] at h5; cases h5
    · rw [hr] at h3; cases h3
end Go.Proofs.Ytpplnhefpcofoaa.PDeltaJoin
