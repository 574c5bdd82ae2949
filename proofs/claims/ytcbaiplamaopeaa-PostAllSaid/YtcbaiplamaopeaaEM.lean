/- PostAll, plainly: the coordinator and the document's one. -/
import Derived.Test.YtcbaiplamaopeaaEK
namespace Go.Proofs.Ytcbaiplamaopeaa.PPostShots
open Go.RowKit Go.Conc Go.Proofs.YtcbaiplamaopeaaW.PrintWords Go.Proofs.YtcbaiplamaopeaaW.PrintLast Go.Proofs.Ytcbaiplamaopeaa.PPost
set_option linter.unusedVariables false
set_option linter.unusedSimpArgs false

theorem RA.place_at (R : RA) (id : Int) (i : Nat) (hi : i < R.sts.length) (h : id = R.first + i) : R.place id = i := by
  unfold RA.place
  rw [if_neg (by omega), if_neg (by omega)]
  omega
theorem RA.status_at (R : RA) (id : Int) (i : Nat) (hi : i < R.sts.length) (h : id = R.first + i) : R.status id = R.sts.getD i 0 := by
  unfold RA.status
  rw [R.place_at id i hi h, if_neg (by omega), Int.toNat_natCast]
theorem RA.status_out (R : RA) (id : Int) (h : R.place id = -1) : R.status id = 0 := by
  unfold RA.status
  rw [h]
  rfl
theorem RA.status_set (R R' : RA) (i : Nat) (v : Int) (hi : i < R.sts.length) (hf : R'.first = R.first) (hs : R'.sts = R.sts.set i v) (id : Int) : R'.status id = if id = R.first + i then v else R.status id := by
  have hl : R'.sts.length = R.sts.length := by rw [hs, List.length_set]
  rcases R.place_cases id with hp | ⟨k, hp, hk, rfl⟩
  · have hne : id ≠ R.first + i := fun e => by rw [R.place_at id i hi e] at hp; omega
    rw [if_neg hne, R.status_out id hp]
    have hp' : R'.place id = -1 := by unfold RA.place at hp ⊢; rw [hf, hl]; exact hp
    exact R'.status_out id hp'
  · rw [R'.status_at _ k (by omega) (by rw [hf]), R.status_at _ k hk rfl, hs, List.getD_eq_getElem?_getD, List.getElem?_set]
    by_cases h : i = k
    · subst h
      rw [if_pos rfl, if_pos hi, if_pos rfl]
      rfl
    · rw [if_neg h, if_neg (by omega), List.getD_eq_getElem?_getD]
theorem RA.status_add (R R' : RA) (v : Int) (hf : R'.first = R.first) (hs : R'.sts = R.sts ++ [v]) (id : Int) : R'.status id = if id = R.first + (R.sts.length : Int) then v else R.status id := by
  have hl : R'.sts.length = R.sts.length + 1 := by rw [hs, List.length_append]; rfl
  by_cases h : id = R.first + (R.sts.length : Int)
  · rw [if_pos h, R'.status_at id R.sts.length (by omega) (by rw [hf]; exact h), hs, List.getD_eq_getElem?_getD, List.getElem?_append_right (Nat.le_refl _), Nat.sub_self]
    rfl
  · rw [if_neg h]
    rcases R.place_cases id with hp | ⟨k, hp, hk, rfl⟩
    · rw [R.status_out id hp]
      refine R'.status_out id ?_
      unfold RA.place at hp ⊢
      rw [hf, hl]
      by_cases h1 : id < R.first
      · exact if_pos h1
      · rw [if_neg h1] at hp ⊢
        rw [if_pos (by
          by_cases h2 : R.first + (R.sts.length : Int) ≤ id
          · omega
          · rw [if_neg h2] at hp; omega)]
    · rw [R'.status_at _ k (by omega) (by rw [hf]), R.status_at _ k hk rfl, hs, List.getD_eq_getElem?_getD, List.getElem?_append_left hk, List.getD_eq_getElem?_getD]
theorem RA.now_of (R : RA) (h : R.sts.getLast? ≠ some 1) : R.now = -1 := if_neg h
theorem getLast_set {l : List Int} {i : Nat} {v : Int} (hi : i < l.length) : (l.set i v).getLast? = if i + 1 = l.length then some v else l.getLast? := by
  rw [List.getLast?_eq_getElem?, List.getElem?_set, List.length_set, List.getLast?_eq_getElem?]
  by_cases h : i + 1 = l.length
  · rw [if_pos (by omega), if_pos hi, if_pos h]
  · rw [if_neg (by omega), if_neg h]
/-- A snapshot is under way: H: whose parts were handed in, in their order. -/
structure Und (S : PS) (R : RA) (H : List (Nat × S40)) : Prop where
  et : R.ts = H.map (fun e => (e.1 : Int))
  ep : R.ps = H.map (·.2)
  nd : (H.map (·.1)).Nodup
  lt : ∀ e ∈ H, e.1 < S.n
  eb : S.buf = H.drop R.pk
  pl : R.pk ≤ H.length
  w2 : ∀ e ∈ H.take R.pk, S.wh.getD e.1 0 = 2 ∧ S.ps.getD e.1 z40 = e.2
  w1 : ∀ e ∈ H.drop R.pk, S.wh.getD e.1 0 = 1
  w0 : ∀ t, t < S.n → (∀ e ∈ H, e.1 ≠ t) → S.wh.getD t 0 = 0
structure RR (S : PS) (R : RA) : Prop where
  en : S.n = R.n
  sm : S.sum = R.sum
  nx : S.next = R.first + (R.sts.length : Int)
  ef : ∀ id, S.f id = R.status id
  u0 : S.under = 0 → R.now = -1 ∧ S.buf = []
  u1 : S.under ≠ 0 → 0 ≤ R.now ∧ S.under = R.first + R.now ∧ ∃ H, Und S R H
theorem RR.new (n : Nat) (first sum : Int) : RR (PS.new n first sum) (RA.new n first sum) :=
  ⟨rfl, rfl, (by show first = first + ((0 : Nat) : Int); omega), fun id => (by
    refine ((RA.new n first sum).status_out id ?_).symm
    rcases (RA.new n first sum).place_cases id with h | ⟨k, -, hk, -⟩
    · exact h
    · exact absurd hk (by simp [RA.new])), fun _ => ⟨rfl, rfl⟩, fun h => absurd rfl h⟩
section
variable {S : PS} {R : RA}
theorem RR.now_neg (h : RR S R) (oR : R.Ok) : S.under = 0 ↔ R.now < 0 := by
  constructor
  · intro hu
    rw [(h.u0 hu).1]
    decide
  · intro hn
    by_cases hu : S.under = 0
    · exact hu
    · have := (h.u1 hu).1
      omega
theorem RR.trig (h : RR S R) (ok : S.Ok) (oR : R.Ok) : S.trig.1 = R.trig.1 ∧ S.trig.2.1 = R.trig.2.1 ∧ RR S.trig.2.2 R.trig.2.2 := by
  have h1 := ok.u1
  unfold PS.trig RA.trig
  by_cases hu : S.under = 0
  · have hn := (h.u0 hu).1
    rw [if_neg (show ¬ 0 < S.under by omega), if_neg (show ¬ 0 ≤ R.now by omega), ← h.nx]
    by_cases hx : 9999 < S.next
    · rw [if_pos hx, if_pos hx]
      exact ⟨rfl, rfl, h⟩
    · rw [if_neg hx, if_neg hx]
      have hnow : RA.now ⟨R.n, R.first, R.sum, R.sts ++ [1], [], [], 0⟩ = (R.sts.length : Int) := by
        unfold RA.now
        rw [if_pos (by simp)]
        simp
      refine ⟨rfl, rfl, ⟨h.en, h.sm, ?_, ?_, ?_, ?_⟩⟩
      · show S.next + 1 = R.first + ((R.sts ++ [1]).length : Int)
        rw [h.nx, List.length_append]
        simp only [List.length_singleton]
        omega
      · intro id
        refine Eq.trans ?_ (RA.status_add R ⟨R.n, R.first, R.sum, R.sts ++ [1], [], [], 0⟩ 1 rfl rfl id).symm
        rw [← h.nx]
        show (if id = S.next then (1 : Int) else S.f id) = _
        rw [h.ef]
      · intro hu'
        have : S.next = 0 := hu'
        have := ok.x1
        omega
      · intro _
        refine ⟨by rw [hnow]; omega, by rw [hnow]; exact h.nx, [], ⟨rfl, rfl, List.nodup_nil, fun e he => (by cases he), rfl, Nat.le_refl _, fun e he => (by cases he), fun e he => (by cases he), fun t ht _ => ?_⟩⟩
        show (List.replicate S.n (0 : Int)).getD t 0 = 0
        rw [List.getD_eq_getElem?_getD, List.getElem?_replicate]
        by_cases hc : t < S.n <;> simp [hc]
  · have hn := h.u1 hu
    rw [if_pos (show 0 < S.under by omega), if_pos hn.1]
    exact ⟨rfl, rfl, h⟩
theorem RR.settle (h : RR S R) (ok : S.Ok) (oR : R.Ok) (id : Int) (o : Bool) : (S.settle id o).1 = (R.settle id o).1 ∧ RR (S.settle id o).2 (R.settle id o).2 := by
  unfold PS.settle RA.settle
  rw [h.ef]
  by_cases h2 : R.status id = 2
  · rw [if_pos h2, if_pos h2]
    refine ⟨rfl, ?_⟩
    rcases R.place_cases id with hp | ⟨i, hp, hi, hid⟩
    · rw [R.status_out id hp] at h2
      exact absurd h2 (by decide)
    · have hst := R.status_at id i hi hid
      rw [h2] at hst
      simp only [hp, Int.toNat_natCast]
      have hv : (if o = true then (3 : Int) else 4) ≠ 1 := by cases o <;> decide
      have hnow : RA.now ⟨R.n, R.first, R.sum, R.sts.set i (if o = true then 3 else 4), R.ps, R.ts, R.pk⟩ = R.now := by
        unfold RA.now
        simp only [List.length_set]
        rw [getLast_set hi]
        by_cases hl : i + 1 = R.sts.length
        · rw [if_pos hl, if_neg (fun e => hv (by injection e))]
          rw [if_neg (fun e => by
            rw [List.getLast?_eq_getElem?, ← hl, Nat.add_sub_cancel] at e
            rw [List.getD_eq_getElem?_getD, e] at hst
            exact absurd hst (by decide))]
        · rw [if_neg hl]
      have hf : ∀ x, (if o = true then (S.setF id 4).setF id 3 else S.setF id 4).f x = if x = id then (if o = true then (3 : Int) else 4) else S.f x := by
        intro x
        cases o
        · rfl
        · show (if x = id then (3 : Int) else if x = id then 4 else S.f x) = _
          by_cases hx : x = id <;> simp [hx]
      have hU : ∀ H, Und S R H → Und (if o = true then (S.setF id 4).setF id 3 else S.setF id 4) ⟨R.n, R.first, R.sum, R.sts.set i (if o = true then 3 else 4), R.ps, R.ts, R.pk⟩ H := by
        intro H hH
        cases o <;> exact ⟨hH.et, hH.ep, hH.nd, hH.lt, hH.eb, hH.pl, hH.w2, hH.w1, hH.w0⟩
      refine ⟨?_, ?_, ?_, ?_, ?_, ?_⟩
      · cases o <;> exact h.en
      · cases o <;> exact h.sm
      · show _ = R.first + ((R.sts.set i _).length : Int)
        rw [List.length_set]
        cases o <;> exact h.nx
      · intro x
        refine (hf x).trans (Eq.trans ?_ (RA.status_set R ⟨R.n, R.first, R.sum, R.sts.set i (if o = true then 3 else 4), R.ps, R.ts, R.pk⟩ i (if o = true then 3 else 4) hi rfl rfl x).symm)
        rw [← hid, h.ef]
      · intro hu
        rw [hnow]
        cases o <;> exact h.u0 hu
      · intro hu
        rw [hnow]
        have hu' : S.under ≠ 0 := by cases o <;> exact hu
        obtain ⟨a, b, H, hH⟩ := h.u1 hu'
        exact ⟨a, by cases o <;> exact b, H, hU H hH⟩
  · rw [if_neg h2, if_neg h2]
    exact ⟨rfl, h⟩
theorem RR.now_last (h : RR S R) (hu : S.under ≠ 0) : ∃ k : Nat, R.now = k ∧ R.sts.length = k + 1 ∧ R.sts.getD k 0 = 1 := by
  rcases R.now_cases with hn | hn
  · have := (h.u1 hu).1
    omega
  · exact hn
/-- The last one is given another status, not 'under way'. -/
theorem RR.ended (h : RR S R) (ok : S.Ok) (hu : S.under ≠ 0) (v : Int) (hv : v ≠ 1) (R' : RA) (h1 : R'.n = R.n) (h2 : R'.first = R.first) (h3 : R'.sum = R.sum) (h4 : R'.sts = R.sts.set R.now.toNat v) : RR ((S.setF S.under v).setU 0).emptied R' := by
  obtain ⟨k, hk, hl, -⟩ := h.now_last hu
  have hun := (h.u1 hu).2.1
  rw [hk, Int.toNat_natCast] at h4
  have hki : k < R.sts.length := by omega
  refine ⟨h.en.trans h1.symm, h.sm.trans h3.symm, ?_, ?_, ?_, ?_⟩
  · rw [h4, h2, List.length_set]
    exact h.nx
  · intro id
    rw [RA.status_set R R' k v hki h2 h4 id]
    show (if id = S.under then v else S.f id) = _
    rw [hun, hk, h.ef]
  · intro _
    refine ⟨R'.now_of ?_, rfl⟩
    rw [h4, getLast_set hki, if_pos hl.symm]
    intro e
    exact hv (by injection e)
  · intro hc
    exact absurd rfl hc
theorem RR.abort (h : RR S R) (ok : S.Ok) (oR : R.Ok) : S.abort.1 = R.abort.1 ∧ S.abort.2.1 = R.abort.2.1 ∧ RR S.abort.2.2 R.abort.2.2 := by
  unfold PS.abort RA.abort
  by_cases hu : S.under = 0
  · rw [if_pos hu, if_pos ((h.now_neg oR).1 hu)]
    exact ⟨rfl, rfl, h⟩
  · have hn := h.u1 hu
    rw [if_neg hu, if_neg (by omega)]
    obtain ⟨k, hk, hl, -⟩ := h.now_last hu
    exact ⟨hn.2.1, rfl, h.ended ok hu 4 (by decide) _ rfl rfl rfl (by unfold RA.setLast; rw [hk, Int.toNat_natCast, hl]; rfl)⟩
end
end Go.Proofs.Ytcbaiplamaopeaa.PPostShots
