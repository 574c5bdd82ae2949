/- DeltaJoin, plain: the joined one applied, then the two in turn go well too. -/
import Derived.Test.YtpplnhefpcofoaaZPJ
namespace Go.Proofs.Ytpplnhefpcofoaa.PDeltaJoin
set_option linter.unusedVariables false
set_option linter.unusedSimpArgs false
theorem appKeep_eq (gone : List ByteArray) (p : MPC) : appKeep gone p = joinKeepC gone p := by
  unfold appKeep joinKeepC
  split
  · rfl
  · rcases fG_01 gone p.l.f0 with h | h <;> simp [h]
theorem appCells_eq (gone : List ByteArray) (ps : List MPC) : appCells gone ps = joinSet gone ps := by
  unfold appCells joinSet
  congr 1
  funext p
  exact appKeep_eq gone p
/-- The keys that are gone and were there. -/
def foundK (gone : List ByteArray) (p : MPC) : Option ByteArray := if (!p.isR && decide (fG gone p.l.f0 = 1)) = true then some p.l.f0 else none
theorem appFound_keys (gone : List ByteArray) : ∀ ps : List MPC, appFound gone ps = (ps.filterMap (foundK gone)).length
  | [] => rfl
  | p :: ps => by
    have ih := appFound_keys gone ps
    unfold appFound at ih ⊢
    rw [List.filter_cons, List.filterMap_cons]
    unfold foundK
    by_cases h : (!p.isR && decide (fG gone p.l.f0 = 1)) = true
    · rw [if_pos h, if_pos h, List.length_cons, ih]; rfl
    · rw [if_neg h, if_neg h, ih]; rfl
theorem foundK_key {gone : List ByteArray} (p : MPC) (k : ByteArray) (h : foundK gone p = some k) : kS k = pkC p := by
  unfold foundK at h
  split at h
  · rename_i hc
    cases h
    simp only [Bool.and_eq_true, Bool.not_eq_true'] at hc
    unfold pkC kS
    rw [if_neg (by rw [hc.1]; simp)]
  · cases h
theorem fG_one {l : List ByteArray} {k : ByteArray} : fG l k = 1 ↔ k ∈ l := by
  rcases fG_01 l k with h | h
  · exact ⟨fun h1 => by rw [h] at h1; simp at h1, fun h1 => absurd h1 (fG_zero.1 h)⟩
  · exact ⟨fun _ => Classical.byContradiction fun hn => by rw [fG_zero.2 hn] at h; simp at h, fun _ => h⟩
theorem mem_found {gone : List ByteArray} {cs set : List S63} (hc : Ris kC cs) (hs : Ris kC set) (k : ByteArray) : k ∈ (mrgC cs set).filterMap (foundK gone) ↔ k ∈ gone ∧ inC cs k ∧ ¬ inC set k := by
  rw [mrgC_keep hc hs]
  constructor
  · rintro ⟨p, _, hat, e⟩
    unfold foundK at e
    split at e
    · rename_i h
      cases e
      simp only [Bool.and_eq_true, Bool.not_eq_true', decide_eq_true_eq] at h
      rcases hat with ⟨h1, _⟩ | ⟨h1, h2, h3, h4⟩
      · rw [h.1] at h1; cases h1
      · exact ⟨fG_one.1 h.2, ⟨p.l, h3, rfl⟩, h4⟩
    · cases e
  · rintro ⟨h1, ⟨c, hcc, rfl⟩, h3⟩
    obtain ⟨p, hp, hat, hr, hl, e⟩ := mrgC_hasL hc hs hcc h3
    refine ⟨p, hp, hat, ?_⟩
    unfold foundK
    rw [if_pos (by rw [hr, e]; simp [fG_one.2 h1]), e]
/-- Fewer are found than are gone just where one of the gone was not there. -/
theorem found_lt {gone : List ByteArray} {cs set : List S63} (hc : Ris kC cs) (hs : Ris kC set) (hg : Ris kS gone) (hap : ∀ k ∈ gone, ¬ inC set k) : appFound gone (mrgC cs set) < gone.length ↔ ∃ k, k ∈ gone ∧ ¬ inC cs k := by
  have e : (mrgC cs set).filterMap (foundK gone) = gone.filter (fun k => eqB (inC cs k)) := by
    refine Ris.ext (key := kS) (Ris.filterMap foundK_key (mrgC_ris _ cs set (Nat.le_refl _) hc hs)) (List.Pairwise.filter _ hg) (fun k => ?_)
    rw [mem_found hc hs, List.mem_filter]
    exact ⟨fun h => ⟨h.1, eqB_true h.2.1⟩, fun h => ⟨h.1, of_eqB h.2, hap k h.1⟩⟩
  rw [appFound_keys, e]
  constructor
  · intro h
    refine Classical.byContradiction fun hn => ?_
    rw [List.filter_eq_self.2 (fun k hk => eqB_true (Classical.byContradiction fun h2 => hn ⟨k, hk, h2⟩))] at h
    exact Nat.lt_irrefl _ h
  · rintro ⟨k, hk, hn⟩
    refine Nat.lt_of_le_of_ne (List.length_filter_le _ _) (fun h => ?_)
    have := List.filter_eq_self.1 (List.filter_sublist.eq_of_length h) k hk
    exact hn (of_eqB this)
end Go.Proofs.Ytpplnhefpcofoaa.PDeltaJoin

namespace Go.Proofs.Ytpplnhefpcofoaa.PDeltaJoin
set_option linter.unusedVariables false
set_option linter.unusedSimpArgs false
def applyS (s : S24) (d : S27) : S24 := ⟨(applyP s.f0 s.f1 d.f0 d.f1 d.f2).1, (applyP s.f0 s.f1 d.f0 d.f1 d.f2).2.1⟩
def applyE (s : S24) (d : S27) : Int := (applyP s.f0 s.f1 d.f0 d.f1 d.f2).2.2
structure Applied (s : S24) (d : S27) (t : S24) : Prop where
  vs : Ris kC s.f1
  vd : Ris kC d.f1 ∧ Ris kS d.f2 ∧ ∀ k ∈ d.f2, ¬ inC d.f1 k
  num : t.f0 = d.f0
  rc : Ris kC t.f1
  cells : ∀ c, c ∈ t.f1 ↔ c ∈ d.f1 ∨ (c ∈ s.f1 ∧ ¬ inC d.f1 c.f0 ∧ c.f0 ∉ d.f2)
  there : ∀ k ∈ d.f2, inC s.f1 k
theorem applied {s : S24} {d : S27} (h : applyE s d = 0) : chkS s.f0 s.f1 = 0 ∧ chkD d.f0 d.f1 d.f2 = 0 ∧ Applied s d (applyS s d) := by
  unfold applyE applyP at h
  by_cases h1 : chkS s.f0 s.f1 ≠ 0
  · rw [if_pos h1] at h; exact absurd h h1
  rw [if_neg h1] at h
  by_cases h2 : chkD d.f0 d.f1 d.f2 ≠ 0
  · rw [if_pos h2] at h; exact absurd h h2
  rw [if_neg h2] at h
  by_cases h3 : appFound d.f2 (mrgC s.f1 d.f1) < d.f2.length
  · rw [if_pos h3] at h; simp at h
  rw [if_neg h3] at h
  by_cases h4 : 64 < (appCells d.f2 (mrgC s.f1 d.f1)).length
  · rw [if_pos h4] at h; simp at h
  have vs := chkS_ris (Classical.not_not.1 h1)
  have vd := chkD_ris (Classical.not_not.1 h2)
  have e : applyP s.f0 s.f1 d.f0 d.f1 d.f2 = (d.f0, appCells d.f2 (mrgC s.f1 d.f1), 0) := by
    unfold applyP
    rw [if_neg h1, if_neg h2, if_neg h3, if_neg h4]
  refine ⟨Classical.not_not.1 h1, Classical.not_not.1 h2, vs, vd, ?_, ?_, ?_, ?_⟩
  · unfold applyS; rw [e]
  · unfold applyS; rw [e]; show Ris kC (appCells _ _); rw [appCells_eq]; exact joinSet_ris vs vd.1
  · intro c
    unfold applyS
    rw [e]
    show c ∈ appCells d.f2 (mrgC s.f1 d.f1) ↔ _
    rw [appCells_eq, mem_joinSet vs vd.1]
  · intro k hk
    exact Classical.byContradiction fun hn => h3 ((found_lt vs vd.1 vd.2.1 vd.2.2).2 ⟨k, hk, hn⟩)
theorem Applied.keys {s : S24} {d : S27} {t : S24} (h : Applied s d t) (k : ByteArray) : inC t.f1 k ↔ inC d.f1 k ∨ (inC s.f1 k ∧ ¬ inC d.f1 k ∧ k ∉ d.f2) := by
  constructor
  · rintro ⟨c, hc, rfl⟩
    rcases (h.cells c).1 hc with h1 | ⟨h1, h2, h3⟩
    · exact .inl ⟨c, h1, rfl⟩
    · exact .inr ⟨⟨c, h1, rfl⟩, h2, h3⟩
  · rintro (⟨c, hc, rfl⟩ | ⟨⟨c, hc, rfl⟩, h2, h3⟩)
    · exact ⟨c, (h.cells c).2 (.inl hc), rfl⟩
    · exact ⟨c, (h.cells c).2 (.inr ⟨hc, h2, h3⟩), rfl⟩
end Go.Proofs.Ytpplnhefpcofoaa.PDeltaJoin

namespace Go.Proofs.Ytpplnhefpcofoaa.PDeltaJoin
set_option linter.unusedVariables false
set_option linter.unusedSimpArgs false
/-- Apply's errors, where state and delta are fit. -/
theorem applyE_cases {s : S24} {d : S27} (hs : chkS s.f0 s.f1 = 0) (hd : chkD d.f0 d.f1 d.f2 = 0) : (applyE s d = 110 ∧ ∃ k, k ∈ d.f2 ∧ ¬ inC s.f1 k) ∨ (applyE s d = 111 ∧ (∀ k ∈ d.f2, inC s.f1 k)) ∨ applyE s d = 0 := by
  have hl := found_lt (gone := d.f2) (cs := s.f1) (set := d.f1) (chkS_ris hs) (chkD_ris hd).1 (chkD_ris hd).2.1 (chkD_ris hd).2.2
  unfold applyE applyP
  rw [if_neg (by rw [hs]; simp), if_neg (by rw [hd]; simp)]
  split
  · rename_i h
    exact .inl ⟨rfl, hl.1 h⟩
  · rename_i h
    split
    · exact .inr (.inl ⟨rfl, fun k hk => Classical.byContradiction fun hn => h (hl.2 ⟨k, hk, hn⟩)⟩)
    · exact .inr (.inr rfl)
end Go.Proofs.Ytpplnhefpcofoaa.PDeltaJoin

namespace Go.Proofs.Ytpplnhefpcofoaa.PDeltaJoin
set_option linter.unusedVariables false
set_option linter.unusedSimpArgs false
theorem chkCells_of : ∀ (l : List S63) (p : Option ByteArray), Ris kC l → (∀ c ∈ l, OkC c) → (∀ q, p = some q → ∀ c ∈ l, klt q c.f0) → chkCells p l = 0
  | [], _, _, _, _ => rfl
  | c :: l, p, hr, ho, hp => by
    have hr' := List.pairwise_cons.1 hr
    obtain ⟨o1, o2, o3⟩ := ho c (by simp)
    rw [chkCells_cons, if_neg (by omega)]
    have hn : notAbove p c.f0 = false := by
      cases p with
      | none => rfl
      | some q => exact kle_lt.2 (hp q rfl c (by simp))
    rw [if_neg (by rw [hn]; simp), if_neg (by omega), if_neg (by rw [o3]; simp)]
    exact chkCells_of l _ hr'.2 (fun d hd => ho d (List.mem_cons_of_mem _ hd)) (fun q e d hd => by cases e; exact hr'.1 d hd)
theorem chkS_of {num : Int} {l : List S63} (h0 : 0 ≤ num) (h1 : num ≤ 1073741824) (hl : l.length ≤ 64) (hr : Ris kC l) (ho : ∀ c ∈ l, OkC c) : chkS num l = 0 := by
  unfold chkS
  rw [if_neg (by omega), if_neg (by omega)]
  exact chkCells_of l none hr ho (fun q e => by cases e)
theorem chkGone_of (f : ByteArray → Int) : ∀ (l : List ByteArray) (p : Option ByteArray), Ris kS l → (∀ k ∈ l, k.size ≤ 12 ∧ f k ≠ 1) → (∀ q, p = some q → ∀ k ∈ l, klt q k) → chkGone f p l = 0
  | [], _, _, _, _ => rfl
  | k :: l, p, hr, ho, hp => by
    have hr' := List.pairwise_cons.1 hr
    obtain ⟨o1, o2⟩ := ho k (by simp)
    rw [chkGone, if_neg (by omega)]
    have hn : notAbove p k = false := by
      cases p with
      | none => rfl
      | some q => exact kle_lt.2 (hp q rfl k (by simp))
    rw [if_neg (by rw [hn]; simp [o2])]
    exact chkGone_of f l _ hr'.2 (fun d hd => ho d (List.mem_cons_of_mem _ hd)) (fun q e d hd => by cases e; exact hr'.1 d hd)
end Go.Proofs.Ytpplnhefpcofoaa.PDeltaJoin

namespace Go.Proofs.Ytpplnhefpcofoaa.PDeltaJoin
set_option linter.unusedVariables false
set_option linter.unusedSimpArgs false
end Go.Proofs.Ytpplnhefpcofoaa.PDeltaJoin

namespace Go.Proofs.Ytpplnhefpcofoaa.PDeltaJoin
set_option linter.unusedVariables false
set_option linter.unusedSimpArgs false
end Go.Proofs.Ytpplnhefpcofoaa.PDeltaJoin

namespace Go.Proofs.Ytpplnhefpcofoaa.PDeltaJoin
set_option linter.unusedVariables false
set_option linter.unusedSimpArgs false
end Go.Proofs.Ytpplnhefpcofoaa.PDeltaJoin
