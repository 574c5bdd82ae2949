/- Diff, plain: what it answers, by members; applied it leads from the one to the other. -/
import Derived.Test.YtpplnhefpcofoaaZPG
import Derived.Test.YtpplnhefpcofoaaZCI
namespace Go.Proofs.Ytpplnhefpcofoaa.PDeltaJoin
set_option linter.unusedVariables false
set_option linter.unusedSimpArgs false
theorem eqvL_valid : ∀ (l k : List S87), (∀ y ∈ l, (chkV y 0 0).1 = 0) → (∀ y ∈ k, (chkV y 0 0).1 = 0) → eqvL l k = true → l = k
  | [], [], _, _, _ => rfl
  | [], y :: k, _, _, h => by have := eqvL_len _ _ h; simp at this
  | x :: l, [], _, _, h => by have := eqvL_len _ _ h; simp at this
  | x :: l, y :: k, hl, hk, h => by
    rw [eqvL_cons] at h
    split at h
    · rename_i he
      rw [(eqv_valid _).1 x y 0 0 0 0 (Nat.le_refl _) (hl x (by simp)) (hk y (by simp)) he, eqvL_valid l k (fun z hz => hl z (List.mem_cons_of_mem _ hz)) (fun z hz => hk z (List.mem_cons_of_mem _ hz)) h]
    · cases h
theorem sameC_iff {x y : S63} (hx : OkC x) (hy : OkC y) : sameC x y = true ↔ x = y := by
  unfold sameC
  simp only [Bool.and_eq_true, decide_eq_true_eq]
  constructor
  · rintro ⟨h1, h2⟩
    cases x
    cases y
    simp only at h1 h2
    have h3 := eqvL_valid _ _ (chkVals_ok hx.2.2) (chkVals_ok hy.2.2) h2
    subst h1
    simp only at h3
    rw [h3]
  · rintro rfl
    exact ⟨rfl, (eqv_refl _).2 _ (Nat.le_refl _)⟩
theorem diffKeepC_key (p : MPC) (c : S63) (h : diffKeepC p = some c) : kC c = pkC p := by
  unfold diffKeepC at h
  split at h
  · cases h
  · rename_i hr
    split at h
    · cases h
    · cases h
      unfold pkC kC
      rw [if_pos (by simpa using hr)]
theorem diffKeepG_key (p : MPC) (k : ByteArray) (h : diffKeepG p = some k) : kS k = pkC p := by
  unfold diffKeepG at h
  split at h
  · rename_i hr
    cases h
    unfold pkC kS
    rw [if_neg (by rw [hr]; simp)]
  · cases h
theorem mem_diffSet {a b : List S63} (ha : Ris kC a) (hb : Ris kC b) (oa : ∀ c ∈ a, OkC c) (ob : ∀ c ∈ b, OkC c) (c : S63) : c ∈ diffSet (mrgC a b) ↔ c ∈ b ∧ c ∉ a := by
  unfold diffSet
  rw [mrgC_keep ha hb]
  constructor
  · rintro ⟨p, _, hat, e⟩
    unfold diffKeepC at e
    rcases hat with ⟨h1, h2, h3⟩ | ⟨h1, _⟩
    · rw [if_neg (by rw [h1]; simp)] at e
      split at e
      · cases e
      · rename_i hn
        cases e
        refine ⟨h2, fun hin => ?_⟩
        rcases h3 with ⟨q1, q2, q3⟩ | ⟨q1, q2⟩
        · have := ha.one q2 hin q3
          exact hn ⟨q1, (sameC_iff (oa _ q2) (ob _ h2)).2 this⟩
        · exact q2 ⟨_, hin, rfl⟩
    · rw [if_pos h1] at e; cases e
  · rintro ⟨h1, h2⟩
    obtain ⟨p, hp, hat, hr, e⟩ := mrgC_hasR ha hb h1
    refine ⟨p, hp, hat, ?_⟩
    unfold diffKeepC
    rw [if_neg (by rw [hr]; simp), if_neg ?_, e]
    rintro ⟨q1, q2⟩
    rcases hat with ⟨_, g2, ⟨_, g4, g5⟩ | ⟨g4, _⟩⟩ | ⟨g1, _⟩
    · rw [(sameC_iff (oa _ g4) (ob _ g2)).1 q2, e] at g4
      exact h2 g4
    · rw [q1] at g4; cases g4
    · rw [hr] at g1; cases g1
theorem mem_diffGone {a b : List S63} (ha : Ris kC a) (hb : Ris kC b) (k : ByteArray) : k ∈ diffGone (mrgC a b) ↔ inC a k ∧ ¬ inC b k := by
  unfold diffGone
  rw [mrgC_keep ha hb]
  constructor
  · rintro ⟨p, _, hat, e⟩
    unfold diffKeepG at e
    rcases hat with ⟨h1, _⟩ | ⟨h1, h2, h3, h4⟩
    · rw [if_neg (by rw [h1]; simp)] at e; cases e
    · rw [if_pos h1] at e
      cases e
      exact ⟨⟨p.l, h3, rfl⟩, h4⟩
  · rintro ⟨⟨c, hc, rfl⟩, hn⟩
    obtain ⟨p, hp, hat, hr, hl, e⟩ := mrgC_hasL ha hb hc hn
    exact ⟨p, hp, hat, by unfold diffKeepG; rw [if_pos hr, e]⟩
def diffD (x y : S24) : S27 := ⟨(diffP x.f0 x.f1 y.f0 y.f1).1, (diffP x.f0 x.f1 y.f0 y.f1).2.1, (diffP x.f0 x.f1 y.f0 y.f1).2.2.1⟩
def diffE (x y : S24) : Int := (diffP x.f0 x.f1 y.f0 y.f1).2.2.2
/-- A difference, by members. -/
structure Diffed (x y : S24) (d : S27) : Prop where
  vx : Ris kC x.f1
  vy : Ris kC y.f1
  num : d.f0 = y.f0
  rc : Ris kC d.f1
  rg : Ris kS d.f2
  cells : ∀ c, c ∈ d.f1 ↔ c ∈ y.f1 ∧ c ∉ x.f1
  gone : ∀ k, k ∈ d.f2 ↔ inC x.f1 k ∧ ¬ inC y.f1 k
def FitS (x : S24) : Prop := chkS x.f0 x.f1 = 0
theorem FitS.ok {x : S24} (h : FitS x) : ∀ c ∈ x.f1, OkC c := chkCells_ok _ _ (chkS_ok h).2.1
theorem diffed {x y : S24} (hx : FitS x) (hy : FitS y) : diffE x y = 0 ∧ Diffed x y (diffD x y) := by
  have vx := chkS_ris hx
  have vy := chkS_ris hy
  have e : diffP x.f0 x.f1 y.f0 y.f1 = (y.f0, diffSet (mrgC x.f1 y.f1), diffGone (mrgC x.f1 y.f1), 0) := by
    unfold diffP
    rw [if_neg (by rw [hx]; simp), if_neg (by rw [hy]; simp)]
  refine ⟨by unfold diffE; rw [e], vx, vy, ?_, ?_, ?_, ?_, ?_⟩
  · unfold diffD; rw [e]
  · unfold diffD; rw [e]; exact Ris.filterMap diffKeepC_key (mrgC_ris _ _ _ (Nat.le_refl _) vx vy)
  · unfold diffD; rw [e]; exact Ris.filterMap diffKeepG_key (mrgC_ris _ _ _ (Nat.le_refl _) vx vy)
  · intro c
    unfold diffD
    rw [e]
    exact mem_diffSet vx vy hx.ok hy.ok c
  · intro k
    unfold diffD
    rw [e]
    exact mem_diffGone vx vy k
theorem Diffed.keys {x y : S24} {d : S27} (h : Diffed x y d) (k : ByteArray) : inC d.f1 k → inC y.f1 k := by
  rintro ⟨c, hc, rfl⟩
  exact ⟨c, ((h.cells c).1 hc).1, rfl⟩
theorem Diffed.len {x y : S24} {d : S27} (h : Diffed x y d) : d.f1.length ≤ y.f1.length ∧ d.f2.length ≤ x.f1.length := by
  constructor
  · have e : d.f1 = y.f1.filter (fun c => eqB (c ∉ x.f1)) := by
      refine Ris.ext h.rc (List.Pairwise.filter _ h.vy) (fun c => ?_)
      rw [h.cells, List.mem_filter]
      exact ⟨fun ⟨a, b⟩ => ⟨a, eqB_true b⟩, fun ⟨a, b⟩ => ⟨a, of_eqB b⟩⟩
    rw [e]
    exact List.length_filter_le _ _
  · have e : d.f2 = x.f1.filterMap (fun c => if eqB (inC y.f1 c.f0) = true then none else some c.f0) := by
      refine Ris.ext (key := kS) h.rg (Ris.filterMap (key := kC) (fun c k hk => ?_) h.vx) (fun k => ?_)
      · split at hk
        · cases hk
        · cases hk; rfl
      · rw [h.gone, List.mem_filterMap]
        constructor
        · rintro ⟨⟨c, hc, rfl⟩, hn⟩
          exact ⟨c, hc, by rw [eqB_false hn]; rfl⟩
        · rintro ⟨c, hc, hk⟩
          split at hk
          · cases hk
          · rename_i hn
            cases hk
            exact ⟨⟨c, hc, rfl⟩, fun hin => hn (eqB_true hin)⟩
    rw [e]
    exact List.length_filterMap_le _ _
theorem diffD_fit {x y : S24} (hx : FitS x) (hy : FitS y) : chkD (diffD x y).f0 (diffD x y).f1 (diffD x y).f2 = 0 := by
  obtain ⟨_, d⟩ := diffed hx hy
  have l1 := d.len
  have y1 := chkS_ok hy
  have x1 := chkS_ok hx
  have hs : chkS (diffD x y).f0 (diffD x y).f1 = 0 := chkS_of (by rw [d.num]; exact y1.2.2.1) (by rw [d.num]; exact y1.2.2.2) (by omega) d.rc (fun c hc => hy.ok c ((d.cells c).1 hc).1)
  unfold chkD
  rw [if_neg (by rw [hs]; simp), if_neg (by omega)]
  refine chkGone_of _ _ none d.rg (fun k hk => ?_) (fun q e => by cases e)
  obtain ⟨⟨c, hc, rfl⟩, hn⟩ := (d.gone k).1 hk
  exact ⟨(hx.ok c hc).1, fun hf => by rw [fS_zero.2 (fun hin => hn (d.keys _ hin))] at hf; simp at hf⟩
/-- j leads from x to t, as far as the cells go. -/
structure Leads (x : S24) (j : S27) (t : S24) : Prop where
  num : t.f0 = j.f0
  rc : Ris kC t.f1
  cells : ∀ c, c ∈ t.f1 ↔ c ∈ j.f1 ∨ (c ∈ x.f1 ∧ ¬ inC j.f1 c.f0 ∧ c.f0 ∉ j.f2)
theorem Leads.keys {x : S24} {j : S27} {t : S24} (h : Leads x j t) (k : ByteArray) : inC t.f1 k ↔ inC j.f1 k ∨ (inC x.f1 k ∧ ¬ inC j.f1 k ∧ k ∉ j.f2) := by
  constructor
  · rintro ⟨c, hc, rfl⟩
    rcases (h.cells c).1 hc with h1 | ⟨h1, h2, h3⟩
    · exact .inl ⟨c, h1, rfl⟩
    · exact .inr ⟨⟨c, h1, rfl⟩, h2, h3⟩
  · rintro (⟨c, hc, rfl⟩ | ⟨⟨c, hc, rfl⟩, h2, h3⟩)
    · exact ⟨c, (h.cells c).2 (.inl hc), rfl⟩
    · exact ⟨c, (h.cells c).2 (.inr ⟨hc, h2, h3⟩), rfl⟩
theorem leads_apply {x t : S24} {j : S27} (hx : FitS x) (hj : chkD j.f0 j.f1 j.f2 = 0) (h : Leads x j t) (hl : t.f1.length ≤ 64) : applyE x j = 110 ∨ (applyE x j = 0 ∧ applyS x j = t) := by
  have vx := chkS_ris hx
  have vj := chkD_ris hj
  rcases applyE_cases hx hj with ⟨h0, _⟩ | ⟨h0, hall⟩ | h0
  · exact .inl h0
  · exfalso
    have e1 : appCells j.f2 (mrgC x.f1 j.f1) = t.f1 := by
      rw [appCells_eq]
      refine Ris.ext (joinSet_ris vx vj.1) h.rc (fun c => ?_)
      rw [mem_joinSet vx vj.1, h.cells]
    unfold applyE applyP at h0
    rw [if_neg (by rw [hx]; simp), if_neg (by rw [hj]; simp)] at h0
    split at h0
    · simp at h0
    · split at h0
      · rename_i q; rw [e1] at q; omega
      · simp at h0
  · refine .inr ⟨h0, ?_⟩
    obtain ⟨_, _, a⟩ := applied h0
    have e1 : (applyS x j).f1 = t.f1 := Ris.ext a.rc h.rc (fun c => by rw [a.cells, h.cells])
    have e0 : (applyS x j).f0 = t.f0 := by rw [a.num, h.num]
    cases ha : applyS x j
    cases t
    rw [ha] at e0 e1
    simp only at e0 e1
    rw [e0, e1]
theorem diffed_leads {x y : S24} {d : S27} (h : Diffed x y d) : Leads x d y := by
  refine ⟨h.num.symm, h.vy, fun c => ?_⟩
  constructor
  · intro hc
    by_cases hx : c ∈ x.f1
    · refine .inr ⟨hx, ?_, ?_⟩
      · rintro ⟨c2, h2, e⟩
        obtain ⟨g1, g2⟩ := (h.cells c2).1 h2
        exact g2 (by rw [h.vy.one g1 hc e]; exact hx)
      · intro hk
        exact ((h.gone _).1 hk).2 ⟨c, hc, rfl⟩
    · exact .inl ((h.cells c).2 ⟨hc, hx⟩)
  · rintro (h1 | ⟨h1, h2, h3⟩)
    · exact ((h.cells c).1 h1).1
    · have hin : inC y.f1 c.f0 := Classical.byContradiction fun hn => h3 ((h.gone _).2 ⟨⟨c, h1, rfl⟩, hn⟩)
      obtain ⟨c2, g1, e⟩ := hin
      have hx2 : c2 ∈ x.f1 := Classical.byContradiction fun hn => h2 ⟨c2, (h.cells c2).2 ⟨g1, hn⟩, e⟩
      rw [h.vx.one h1 hx2 e.symm]
      exact g1
theorem Diffed.there {x y : S24} (hx : FitS x) (hy : FitS y) : applyE x (diffD x y) = 0 ∧ applyS x (diffD x y) = y := by
  obtain ⟨_, d⟩ := diffed hx hy
  rcases leads_apply hx (diffD_fit hx hy) (diffed_leads d) (chkS_ok hy).1 with h | h
  · exfalso
    rcases applyE_cases hx (diffD_fit hx hy) with ⟨_, k, hk, hn⟩ | ⟨h2, _⟩ | h2
    · exact hn ((d.gone k).1 hk).1
    · rw [h] at h2; simp at h2
    · rw [h] at h2; simp at h2
  · exact h
/-! one entry left out -/
/-! along a chain -/
theorem Leads.gone {x t : S24} {j : S27} (h : Leads x j t) (hj : chkD j.f0 j.f1 j.f2 = 0) (k : ByteArray) (hk : k ∈ j.f2) : ¬ inC t.f1 k := by
  rw [h.keys]
  rintro (q | ⟨_, _, q⟩)
  · exact (chkD_ris hj).2.2 k hk q
  · exact q hk
end Go.Proofs.Ytpplnhefpcofoaa.PDeltaJoin
