/- PostAll, plainly: Pick. -/
import Derived.Test.YtcbaiplamaopeaaEN
namespace Go.Proofs.Ytcbaiplamaopeaa.PPostShots
open Go.RowKit Go.Conc Go.Proofs.YtcbaiplamaopeaaW.PrintWords Go.Proofs.YtcbaiplamaopeaaW.PrintLast Go.Proofs.Ytcbaiplamaopeaa.PPost
set_option linter.unusedVariables false
set_option linter.unusedSimpArgs false

section
variable {S : PS} {R : RA} {H : List (Nat × S40)}
def RA.took (R : RA) : RA := ⟨R.n, R.first, R.sum, R.sts, R.ps, R.ts, R.pk + 1⟩
theorem Und.len (h : Und S R H) : H.length ≤ S.n := by
  have := nodup_le S.n (H.map (·.1)) h.nd (fun x hx => by
    obtain ⟨e, he, rfl⟩ := List.mem_map.1 hx
    exact h.lt e he)
  rw [List.length_map] at this
  exact this
theorem Und.none (h : Und S R H) : S.buf = [] ↔ R.pk = R.ps.length := by
  rw [h.eb, h.ep, List.length_map, List.drop_eq_nil_iff]
  have := h.pl
  omega
theorem RR.empty (h : RR S R) (oR : R.Ok) : S.buf = [] ↔ (R.now < 0 ∨ R.pk = R.ps.length) := by
  by_cases hu : S.under = 0
  · have := h.u0 hu
    exact ⟨fun _ => .inl (by omega), fun _ => this.2⟩
  · obtain ⟨a1, a2, H, hH⟩ := h.u1 hu
    rw [hH.none]
    exact ⟨.inr, fun hc => hc.elim (fun hc => by omega) id⟩
theorem nodup_fst_eq {H : List (Nat × S40)} (hn : (H.map (·.1)).Nodup) {i j : Nat} {a b : Nat × S40} (hi : H[i]? = some a) (hj : H[j]? = some b) (he : a.1 = b.1) : i = j := by
  have h1 := (List.getElem?_eq_some_iff.1 hi).1
  have h2 := (List.getElem?_eq_some_iff.1 hj).1
  have e1 : (H.map (·.1))[i]? = some a.1 := by rw [List.getElem?_map, hi]; rfl
  have e2 : (H.map (·.1))[j]? = some a.1 := by rw [List.getElem?_map, hj, he]; rfl
  exact (List.getElem?_inj (by rw [List.length_map]; exact h1) hn).1 (e1.trans e2.symm)
theorem mem_take_at {α : Type} {l : List α} {n : Nat} {e : α} (h : e ∈ l.take n) : ∃ i, i < n ∧ l[i]? = some e := by
  obtain ⟨i, hi⟩ := List.getElem?_of_mem h
  rw [List.getElem?_take] at hi
  by_cases hc : i < n
  · rw [if_pos hc] at hi; exact ⟨i, hc, hi⟩
  · rw [if_neg hc] at hi; cases hi
theorem mem_drop_at {α : Type} {l : List α} {n : Nat} {e : α} (h : e ∈ l.drop n) : ∃ i, n ≤ i ∧ l[i]? = some e := by
  obtain ⟨i, hi⟩ := List.getElem?_of_mem h
  rw [List.getElem?_drop] at hi
  exact ⟨n + i, by omega, hi⟩
/-- One more was taken. -/
theorem Und.took (h : Und S R H) (ok : S.Ok) {t : Nat} {x : S40} {rest : List (Nat × S40)} (hb : S.buf = (t, x) :: rest) : H[R.pk]? = some (t, x) ∧ R.pk < H.length ∧ Und (S.took t x) R.took H := by
  have hd := h.eb
  rw [hb] at hd
  have hx : H[R.pk]? = some (t, x) := by
    have : (H.drop R.pk)[0]? = some (t, x) := by rw [← hd]; rfl
    rw [List.getElem?_drop] at this
    exact this
  have hlt := (List.getElem?_eq_some_iff.1 hx).1
  have htn : t < S.n := h.lt (t, x) (List.mem_of_getElem? hx)
  have hlw : t < S.wh.length := by rw [ok.lw]; exact htn
  have hlp : t < S.ps.length := by rw [ok.lp]; exact htn
  refine ⟨hx, hlt, ⟨h.et, h.ep, h.nd, h.lt, ?_, hlt, ?_, ?_, ?_⟩⟩
  · show S.buf.tail = H.drop (R.pk + 1)
    rw [hb, ← List.tail_drop, ← hd]
  · intro e he
    show ((S.wh.set t 2).getD e.1 0 = 2) ∧ (S.ps.set t x).getD e.1 z40 = e.2
    obtain ⟨i, hi, hie⟩ := mem_take_at he
    by_cases hc : i = R.pk
    · subst hc
      rw [hx] at hie
      injection hie with hie
      subst hie
      exact ⟨getD_set_eq hlw, getD_set_eq hlp⟩
    · have hne : t ≠ e.1 := fun hc' => hc (nodup_fst_eq h.nd hie hx hc'.symm)
      rw [getD_set_ne hne, getD_set_ne hne]
      refine h.w2 e ?_
      have : (H.take R.pk)[i]? = some e := by
        rw [List.getElem?_take, if_pos (by have : i < R.pk + 1 := hi; omega)]
        exact hie
      exact List.mem_of_getElem? this
  · intro e he
    show (S.wh.set t 2).getD e.1 0 = 1
    obtain ⟨i, hi, hie⟩ := mem_drop_at he
    have hi' : R.pk + 1 ≤ i := hi
    have hne : t ≠ e.1 := fun hc' => by have := nodup_fst_eq h.nd hie hx hc'.symm; omega
    rw [getD_set_ne hne]
    refine h.w1 e ?_
    have : (H.drop R.pk)[i - R.pk]? = some e := by
      rw [List.getElem?_drop, show R.pk + (i - R.pk) = i by omega]
      exact hie
    exact List.mem_of_getElem? this
  · intro t' ht' hn
    show (S.wh.set t 2).getD t' 0 = 0
    rw [getD_set_ne (fun hc => hn (t, x) (List.mem_of_getElem? hx) hc)]
    exact h.w0 t' ht' hn
theorem RR.took (h : RR S R) (ok : S.Ok) (oR : R.Ok) {t : Nat} {x : S40} {rest : List (Nat × S40)} (hb : S.buf = (t, x) :: rest) : S.under ≠ 0 ∧ 0 ≤ R.now ∧ R.pk < R.ps.length ∧ RR (S.took t x) R.took := by
  have hu : S.under ≠ 0 := fun hu => by have := (h.u0 hu).2; rw [hb] at this; cases this
  obtain ⟨a1, a2, H, hH⟩ := h.u1 hu
  obtain ⟨-, b2, b3⟩ := hH.took ok hb
  exact ⟨hu, a1, by rw [hH.ep, List.length_map]; exact b2, ⟨h.en, h.sm, h.nx, h.ef, fun hc => absurd hc hu, fun _ => ⟨a1, a2, H, b3⟩⟩⟩
/-- Were all taken? -/
theorem Und.all2 (h : Und S R H) (lw : S.wh.length = S.n) : S.all2 = true ↔ ¬ R.pk < S.n := by
  have hlen := h.len
  have hpl := h.pl
  have hL : ((H.take R.pk).map (·.1)).length = R.pk := by rw [List.length_map, List.length_take]; omega
  have hex : ∀ t, t < S.n → (S.wh.getD t 0 = 2 ↔ t ∈ (H.take R.pk).map (·.1)) := fun t ht => by
    rw [h.wh2 t ht, List.mem_map]
  constructor
  · intro ha
    unfold PS.all2 at ha
    rw [List.all_eq_true] at ha
    have := cover_le S.n ((H.take R.pk).map (·.1)) (fun t ht => (hex t ht).1 (by
      have hlw : t < S.wh.length := by rw [lw]; exact ht
      have := ha _ (List.getElem_mem hlw)
      rw [List.getD_eq_getElem?_getD, List.getElem?_eq_getElem hlw]
      simpa using this))
    omega
  · intro hn
    unfold PS.all2
    refine all2_of lw (fun t ht => (hex t ht).2 (Classical.byContradiction fun hnin => ?_))
    have := nodup_le S.n (t :: (H.take R.pk).map (·.1)) (List.nodup_cons.2 ⟨hnin, by rw [List.map_take]; exact h.nd.sublist (List.take_sublist _ _)⟩) (fun y hy => by
      rcases List.mem_cons.1 hy with rfl | hy
      · exact ht
      · obtain ⟨e, he, rfl⟩ := List.mem_map.1 hy
        exact h.lt e (List.mem_of_mem_take he))
    rw [List.length_cons, hL] at this
    omega
/-- All were taken: they lie by task. -/
theorem Und.byTask (h : Und S R H) (lw : S.wh.length = S.n) (lp : S.ps.length = S.n) (ha : ¬ R.pk < S.n) : ∀ k, k ≤ S.n → PPostShots.byTask R.ts R.ps k = S.ps.take k
  | 0, _ => rfl
  | k + 1, hk => by
    have ih := h.byTask lw lp ha k (by omega)
    have hw := (h.wh2 k (by omega)).1 (by
      have := (h.all2 lw).2 ha
      unfold PS.all2 at this
      rw [List.all_eq_true] at this
      have hlw : k < S.wh.length := by rw [lw]; omega
      have := this _ (List.getElem_mem hlw)
      rw [List.getD_eq_getElem?_getD, List.getElem?_eq_getElem hlw]
      simpa using this)
    obtain ⟨e, he, rfl⟩ := hw
    unfold PPostShots.byTask
    rw [ih, take_one (z := z40) (by rw [lp]; omega), (h.w2 e he).2, h.et, h.ep, List.length_map, forT_eq H e.1 H.length (Nat.le_refl _), List.take_length, filter_one H e.1 e.2 h.nd (List.mem_of_mem_take he)]
    rfl
/-- What the document's shot holds is what was handed in. -/
theorem byTask_mem {ts : List Int} {ps : List S40} (hl : ts.length = ps.length) : ∀ k, ∀ x ∈ byTask ts ps k, x ∈ ps
  | 0, x, h => by cases h
  | k + 1, x, h => by
    unfold PPostShots.byTask at h
    rcases List.mem_append.1 h with h | h
    · exact byTask_mem hl k x h
    · have : ∀ i, i ≤ ps.length → ∀ x ∈ forT ts ps (k : Int) i, x ∈ ps := by
        intro i
        induction i with
        | zero => intro _ x h; cases h
        | succ i ih =>
          intro hi x h
          unfold forT at h
          split at h
          · rcases List.mem_append.1 h with h | h
            · exact ih (by omega) x h
            · rw [List.mem_singleton] at h
              rw [h]
              exact getD_mem _ _ _ (by omega)
          · exact ih (by omega) x h
      exact this _ (by omega) x h
/-- The shot. -/
theorem RR.shot (h : RR S R) (ok : S.Ok) (oR : R.Ok) {t : Nat} {x : S40} {rest : List (Nat × S40)} (hb : S.buf = (t, x) :: rest) :
    ((S.took t x).all2 = true ↔ ¬ R.pk + 1 < R.n) ∧ ((S.took t x).all2 = true → S.under = R.first + R.now ∧ S.sum = R.sum ∧ (S.took t x).ps = byTask R.ts R.ps R.n ∧ RR (S.took t x).shot ⟨R.n, R.first, R.sum, R.sts.set R.now.toNat 2, R.ps, R.ts, R.pk + 1⟩) := by
  obtain ⟨hu, a1, a2, hT⟩ := h.took ok oR hb
  obtain ⟨-, b2, H, hH⟩ := h.u1 hu
  obtain ⟨-, -, b3⟩ := hH.took ok hb
  have lw : (S.took t x).wh.length = (S.took t x).n := by show (S.wh.set t 2).length = S.n; rw [List.length_set]; exact ok.lw
  have lp : (S.took t x).ps.length = (S.took t x).n := by show (S.ps.set t x).length = S.n; rw [List.length_set]; exact ok.lp
  have hall := b3.all2 lw
  have e1 : R.took.pk < (S.took t x).n ↔ R.pk + 1 < R.n := by show R.pk + 1 < S.n ↔ _; rw [h.en]
  rw [e1] at hall
  refine ⟨hall, fun ha => ⟨b2, h.sm, ?_, ?_⟩⟩
  · have := b3.byTask lw lp (by rw [e1]; exact hall.1 ha) R.n (by show R.n ≤ S.n; rw [h.en]; exact Nat.le_refl _)
    rw [List.take_of_length_le (by rw [lp]; show S.n ≤ R.n; rw [h.en]; exact Nat.le_refl _)] at this
    exact this.symm
  · have okT : (S.took t x).under ≠ 0 := hu
    unfold PS.shot
    exact hT.ended ⟨ok.n1, ok.n2, ok.x1, ok.x2, ok.u1, ok.u2, lw, lp, by
      show ((S.buf.tail).map (·.1)).Nodup
      rw [List.map_tail]
      exact ok.nd.sublist (List.tail_sublist _), fun e he => by
      show (S.wh.set t 2)[e.1]? = some 1
      have he' : e ∈ S.buf := List.mem_of_mem_tail he
      have hne : t ≠ e.1 := fun hc => by
        have hn := ok.nd
        rw [hb, List.map_cons, List.nodup_cons] at hn
        have hm : e ∈ rest := by have : e ∈ S.buf.tail := he; rw [hb] at this; exact this
        exact hn.1 (by rw [show (t, x).1 = e.1 from hc]; exact List.mem_map_of_mem (f := (·.1)) hm)
      rw [List.getElem?_set, if_neg hne]
      exact ok.bw e he'⟩ okT 2 (by decide) _ rfl rfl rfl rfl
end
end Go.Proofs.Ytcbaiplamaopeaa.PPostShots
