/- PostAll, plainly: Open, Hand, Pick. -/
import Derived.Test.YtcbaiplamaopeaaEM
namespace Go.Proofs.Ytcbaiplamaopeaa.PPostShots
open Go.RowKit Go.Conc Go.Proofs.YtcbaiplamaopeaaW.PrintWords Go.Proofs.YtcbaiplamaopeaaW.PrintLast Go.Proofs.Ytcbaiplamaopeaa.PPost
set_option linter.unusedVariables false
set_option linter.unusedSimpArgs false

theorem take_one {α : Type} {l : List α} {i : Nat} {z : α} (h : i < l.length) : l.take (i + 1) = l.take i ++ [l.getD i z] := take_getD l z i h
theorem inR_iff (H : List (Nat × S40)) (t : Nat) : ∀ i, i ≤ H.length → (inR (H.map (fun e => (e.1 : Int))) (t : Int) i = true ↔ ∃ e ∈ H.take i, e.1 = t)
  | 0, _ => by simp [inR]
  | i + 1, h => by
    have ih := inR_iff H t i (by omega)
    unfold inR
    rw [Bool.or_eq_true, ih, take_one (z := ((0, z40) : Nat × S40)) (by omega)]
    have hg : (H.map (fun e => (e.1 : Int))).getD i 0 = ((H.getD i (0, z40)).1 : Int) := by
      rw [List.getD_eq_getElem?_getD, List.getElem?_map, List.getD_eq_getElem?_getD, List.getElem?_eq_getElem (by omega)]
      rfl
    rw [hg]
    simp only [List.mem_append, List.mem_singleton, beq_iff_eq]
    constructor
    · rintro (⟨e, he, h1⟩ | h1)
      · exact ⟨e, .inl he, h1⟩
      · exact ⟨_, .inr rfl, by omega⟩
    · rintro ⟨e, he | he, h1⟩
      · exact .inl ⟨e, he, h1⟩
      · subst he
        exact .inr (by rw [h1])
theorem forT_eq (H : List (Nat × S40)) (t : Nat) : ∀ i, i ≤ H.length → forT (H.map (fun e => (e.1 : Int))) (H.map (·.2)) (t : Int) i = ((H.take i).filter (fun e => e.1 == t)).map (·.2)
  | 0, _ => rfl
  | i + 1, h => by
    have ih := forT_eq H t i (by omega)
    unfold forT
    have hg : (H.map (fun e => (e.1 : Int))).getD i 0 = ((H.getD i (0, z40)).1 : Int) := by
      rw [List.getD_eq_getElem?_getD, List.getElem?_map, List.getD_eq_getElem?_getD, List.getElem?_eq_getElem (by omega)]
      rfl
    have hp : (H.map (·.2)).getD i z40 = (H.getD i (0, z40)).2 := by
      rw [List.getD_eq_getElem?_getD, List.getElem?_map, List.getD_eq_getElem?_getD, List.getElem?_eq_getElem (by omega)]
      rfl
    rw [hg, hp, take_one (z := ((0, z40) : Nat × S40)) (by omega), List.filter_append, List.map_append, ih]
    by_cases hc : (H.getD i (0, z40)).1 = t
    · rw [if_pos (beq_iff_eq.2 (by rw [hc])), List.filter_cons, if_pos (beq_iff_eq.2 hc)]
      rfl
    · rw [if_neg (fun e => hc (by have := beq_iff_eq.1 e; omega)), List.filter_cons, if_neg (fun e => hc (beq_iff_eq.1 e))]
      simp
theorem filter_one : ∀ (H : List (Nat × S40)) (t : Nat) (x : S40), (H.map (·.1)).Nodup → (t, x) ∈ H → H.filter (fun e => e.1 == t) = [(t, x)]
  | [], t, x, _, h => by cases h
  | e :: H, t, x, hn, h => by
    rw [List.map_cons, List.nodup_cons] at hn
    rcases List.mem_cons.1 h with rfl | h
    · rw [List.filter_cons, if_pos (by simp)]
      rw [List.filter_eq_nil_iff.2 (fun q hq hc => hn.1 (by
        have : q.1 = t := by simpa using hc
        rw [← this]
        exact List.mem_map_of_mem (f := (·.1)) hq))]
    · have hne : ¬ e.1 = t := fun he => hn.1 (by rw [he]; exact List.mem_map_of_mem (f := (·.1)) h)
      rw [List.filter_cons, if_neg (by simpa using hne)]
      exact filter_one H t x hn.2 h
theorem cover_le : ∀ (n : Nat) (L : List Nat), (∀ t, t < n → t ∈ L) → n ≤ L.length
  | 0, _, _ => Nat.zero_le _
  | n + 1, L, h => by
    have hm := h n (Nat.lt_succ_self n)
    have := cover_le n (L.erase n) (fun t ht => (List.mem_erase_of_ne (by omega)).2 (h t (by omega)))
    rw [List.length_erase_of_mem hm] at this
    have := List.length_pos_of_mem hm
    omega
section
variable {S : PS} {R : RA} {H : List (Nat × S40)}
theorem Und.wh2 (h : Und S R H) (t : Nat) (ht : t < S.n) : S.wh.getD t 0 = 2 ↔ ∃ e ∈ H.take R.pk, e.1 = t := by
  constructor
  · intro hw
    by_cases hin : ∃ e ∈ H, e.1 = t
    · obtain ⟨e, he, rfl⟩ := hin
      rw [← List.take_append_drop R.pk H, List.mem_append] at he
      rcases he with he | he
      · exact ⟨e, he, rfl⟩
      · rw [h.w1 e he] at hw; cases hw
    · rw [h.w0 t ht (fun e he hc => hin ⟨e, he, hc⟩)] at hw; cases hw
  · rintro ⟨e, he, rfl⟩
    exact (h.w2 e he).1
theorem Und.wh0 (h : Und S R H) (t : Nat) (ht : t < S.n) : S.wh.getD t 0 = 0 ↔ ∀ e ∈ H, e.1 ≠ t := by
  constructor
  · rintro hw e he rfl
    rw [← List.take_append_drop R.pk H, List.mem_append] at he
    rcases he with he | he
    · rw [(h.w2 e he).1] at hw; cases hw
    · rw [h.w1 e he] at hw; cases hw
  · exact h.w0 t ht
theorem Und.left (h : Und S R H) : ∀ k, k ≤ S.n → leftOf S.wh k = leftR R.ts R.pk k
  | 0, _ => rfl
  | k + 1, hk => by
    have ih := h.left k (by omega)
    unfold leftOf leftR
    rw [ih, h.et]
    have h2 := h.wh2 k (by omega)
    rw [← inR_iff H k R.pk h.pl] at h2
    by_cases hc : S.wh.getD k 0 = 2
    · rw [if_pos hc, if_pos (h2.1 hc)]
    · rw [if_neg hc, if_neg (fun e => hc (h2.2 e))]
theorem RR.opened (h : RR S R) (oR : R.Ok) : S.open_ = R.open_ := by
  unfold PS.open_ RA.open_
  by_cases hu : S.under = 0
  · rw [if_pos hu, if_pos ((h.now_neg oR).1 hu)]
  · obtain ⟨h1, h2, H, hH⟩ := h.u1 hu
    rw [if_neg hu, if_neg (by omega), h2, hH.left S.n (Nat.le_refl _), h.en]
theorem Und.inTs_iff (h : Und S R H) (t : Nat) : inTs R.ts (t : Int) = true ↔ ∃ e ∈ H, e.1 = t := by
  unfold inTs
  rw [h.et, List.length_map, inR_iff H t H.length (Nat.le_refl _), List.take_length]
theorem Und.room (h : Und S R H) (ok : S.Ok) (t : Nat) (ht : t < S.n) (hn : inTs R.ts (t : Int) = false) : H.length < S.n := by
  have hnin : ∀ e ∈ H, e.1 ≠ t := fun e he hc => by
    have := (h.inTs_iff t).2 ⟨e, he, hc⟩
    rw [hn] at this
    cases this
  have := nodup_le S.n (t :: H.map (·.1)) (List.nodup_cons.2 ⟨fun hm => by
    obtain ⟨e, he, hc⟩ := List.mem_map.1 hm
    exact hnin e he hc, h.nd⟩) (fun x hx => by
    rcases List.mem_cons.1 hx with rfl | hx
    · exact ht
    · obtain ⟨e, he, rfl⟩ := List.mem_map.1 hx
      exact h.lt e he)
  simp only [List.length_cons, List.length_map] at this
  omega
theorem RR.room (h : RR S R) (ok : S.Ok) (oR : R.Ok) (hu : 0 ≤ R.now) (task : Int) (hn : inTs R.ts task = false) (h0 : 0 ≤ task) (h1 : task < (R.n : Int)) : R.ps.length < 12 := by
  have hu' : S.under ≠ 0 := fun e => by have := (h.now_neg oR).1 e; omega
  obtain ⟨-, -, H, hH⟩ := h.u1 hu'
  obtain ⟨t, rfl⟩ : ∃ t : Nat, task = t := ⟨task.toNat, by omega⟩
  have := hH.room ok t (by rw [h.en]; omega) hn
  rw [hH.ep, List.length_map]
  have := ok.n2
  omega
theorem getD_set_ne {α : Type} {l : List α} {i j : Nat} {x z : α} (h : i ≠ j) : (l.set i x).getD j z = l.getD j z := by
  rw [List.getD_eq_getElem?_getD, List.getElem?_set, if_neg h, List.getD_eq_getElem?_getD]
theorem getD_set_eq {α : Type} {l : List α} {i : Nat} {x z : α} (h : i < l.length) : (l.set i x).getD i z = x := by
  rw [List.getD_eq_getElem?_getD, List.getElem?_set, if_pos rfl, if_pos h]
  rfl
theorem RR.hand (h : RR S R) (ok : S.Ok) (oR : R.Ok) (id task : Int) (x : S40) : (S.hand id task x).1 = (R.hand id task x).1 ∧ RR (S.hand id task x).2 (R.hand id task x).2 := by
  unfold PS.hand RA.hand
  rw [← h.en]
  by_cases h1 : task < 0 ∨ (S.n : Int) ≤ task
  · rw [if_pos h1, if_pos h1]
    exact ⟨rfl, h⟩
  rw [if_neg h1, if_neg h1]
  by_cases hu : S.under = 0
  · rw [if_pos (.inl hu), if_pos (.inl ((h.now_neg oR).1 hu))]
    exact ⟨rfl, h⟩
  obtain ⟨a1, a2, H, hH⟩ := h.u1 hu
  by_cases hid : id = S.under
  · have c1 : ¬ (S.under = 0 ∨ ¬ id = S.under) := fun hc => hc.elim hu (fun hc => hc hid)
    have c2 : ¬ (R.now < 0 ∨ ¬ R.first + R.now = id) := fun hc => hc.elim (fun hc => by omega) (fun hc => hc (by rw [← a2, hid]))
    rw [if_neg c1, if_neg c2]
    obtain ⟨t, rfl⟩ : ∃ t : Nat, task = t := ⟨task.toNat, by omega⟩
    rw [Int.toNat_natCast]
    have ht : t < S.n := by omega
    have hw0 := hH.wh0 t ht
    by_cases h3 : inTs R.ts (t : Int) = true
    · have c3 : ¬ S.wh.getD t 0 = 0 := fun hc => by
        obtain ⟨e, he, h4⟩ := (hH.inTs_iff t).1 h3
        exact hw0.1 hc e he h4
      rw [if_pos h3, if_pos c3]
      exact ⟨rfl, h⟩
    · have hnin : ∀ e ∈ H, e.1 ≠ t := fun e he hc => h3 ((hH.inTs_iff t).2 ⟨e, he, hc⟩)
      have c3 : ¬ ¬ S.wh.getD t 0 = 0 := fun hc => hc (hw0.2 hnin)
      rw [if_neg h3, if_neg c3]
      refine ⟨rfl, rfl, h.sm, h.nx, h.ef, fun hc => absurd hc hu, fun _ => ⟨a1, a2, H ++ [(t, x)], ?_⟩⟩
      have hpl := hH.pl
      have hlw : t < S.wh.length := by rw [ok.lw]; exact ht
      refine ⟨by show R.ts ++ [(t : Int)] = _; rw [hH.et, List.map_append]; rfl, by show R.ps ++ [x] = _; rw [hH.ep, List.map_append]; rfl, ?_, ?_, ?_, ?_, ?_, ?_, ?_⟩
      · rw [List.map_append]
        refine List.nodup_append.2 ⟨hH.nd, by simp, fun a ha b hb => ?_⟩
        obtain ⟨e, he, rfl⟩ := List.mem_map.1 ha
        simp at hb
        subst hb
        exact hnin e he
      · intro e he
        rcases List.mem_append.1 he with he | he
        · exact hH.lt e he
        · simp at he; subst he; exact ht
      · show S.buf ++ [(t, x)] = _
        rw [hH.eb, List.drop_append_of_le_length hpl]
      · show R.pk ≤ _
        rw [List.length_append]
        omega
      · intro e he
        have he' : e ∈ H.take R.pk := by rw [show (H ++ [(t, x)]).take R.pk = H.take R.pk from List.take_append_of_le_length hpl] at he; exact he
        have hne : t ≠ e.1 := fun hc => hnin e (List.mem_of_mem_take he') hc.symm
        show (S.wh.set t 1).getD e.1 0 = 2 ∧ S.ps.getD e.1 z40 = e.2
        rw [getD_set_ne hne]
        exact hH.w2 e he'
      · intro e he
        rw [show (H ++ [(t, x)]).drop R.pk = H.drop R.pk ++ [(t, x)] from List.drop_append_of_le_length hpl] at he
        show (S.wh.set t 1).getD e.1 0 = 1
        rcases List.mem_append.1 he with he | he
        · rw [getD_set_ne (fun hc => hnin e (List.mem_of_mem_drop he) hc.symm)]
          exact hH.w1 e he
        · simp at he
          subst he
          exact getD_set_eq hlw
      · intro t' ht' hn'
        have hne : t ≠ t' := fun hc => hn' (t, x) (by simp) hc
        show (S.wh.set t 1).getD t' 0 = 0
        rw [getD_set_ne hne]
        exact hH.w0 t' ht' (fun e he => hn' e (List.mem_append_left _ he))
  · rw [if_pos (.inr hid), if_pos (.inr (fun hc => hid (by rw [a2, hc])))]
    exact ⟨rfl, h⟩
end
end Go.Proofs.Ytcbaiplamaopeaa.PPostShots
