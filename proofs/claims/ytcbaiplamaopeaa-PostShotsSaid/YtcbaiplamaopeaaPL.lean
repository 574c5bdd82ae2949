/- PostStatus, plainly: each status goes its way. -/
import Derived.Test.YtcbaiplamaopeaaPI
namespace Go.Proofs.Ytcbaiplamaopeaa.PPostShots
open Go.RowKit Go.Conc Go.Proofs.YtcbaiplamaopeaaW.PrintWords Go.Proofs.YtcbaiplamaopeaaW.PrintLast Go.Proofs.Ytcbaiplamaopeaa.PPost
set_option linter.unusedVariables false
set_option linter.unusedSimpArgs false

/-- May a status go from one to another? -/
def mayP (a b : Int) : Prop := a = b ∨ (a = 0 ∧ b = 1) ∨ (a = 1 ∧ (b = 2 ∨ b = 4)) ∨ (a = 2 ∧ (b = 3 ∨ b = 4))
/-- What the statement knows agrees with the coordinator. -/
structure SInv (first : Int) (S : PS) (W : List Int) : Prop where
  f1 : 1 ≤ first
  nx : S.next = first + W.length
  st : ∀ k, k < W.length → S.f (first + (k : Nat)) = W.getD k 0
  z : ∀ x, x < first ∨ first + (W.length : Int) ≤ x → S.f x = 0
  un : ∀ x, S.f x = 1 ↔ (x = S.under ∧ 0 < S.under)
  b0 : S.under = 0 → S.buf = []
/-- Has at most one another status, one that it may have? -/
structure MO (first : Int) (S : PS) (W : List Int) : Prop where
  ne : ∃ j, ∀ k, k < W.length → k ≠ j → S.f (first + (k : Nat)) = W.getD k 0
  may : ∀ k, k < W.length → mayP (W.getD k 0) (S.f (first + (k : Nat)))
  op : ∀ k, k < W.length → (S.f (first + (k : Nat)) = 1 ↔ S.under = first + (k : Nat))
  z1 : S.f (first + (W.length : Nat)) = 0
  z0 : S.f (first - 1) = 0
def newW (first : Int) (S : PS) (n : Nat) : List Int := (List.range n).map fun (k : Nat) => S.f (first + (k : Nat))
theorem newW_len (first : Int) (S : PS) (n : Nat) : (newW first S n).length = n := by simp [newW]
theorem newW_get (first : Int) (S : PS) (n k : Nat) (h : k < n) : (newW first S n).getD k 0 = S.f (first + (k : Nat)) := by simp [newW, h]
theorem open1 (S : PS) : S.open_.1 = S.under := by
  unfold PS.open_
  by_cases h : S.under = 0
  · rw [if_pos h]; exact h.symm
  · rw [if_neg h]
section
variable {first : Int} {S : PS} {W : List Int}
theorem SInv.opn (h : SInv first S W) (k : Nat) : S.f (first + (k : Nat)) = 1 ↔ S.under = first + (k : Nat) := by
  rw [h.un]
  have := h.f1
  constructor
  · intro h'; exact h'.1.symm
  · intro h'; omega
theorem SInv.news (h : SInv first S W) {S' : PS} (hn : S'.next = S.next) (hz : ∀ x, x < first ∨ first + (W.length : Int) ≤ x → S'.f x = 0) (hu : ∀ x, S'.f x = 1 ↔ (x = S'.under ∧ 0 < S'.under)) (hb : S'.under = 0 → S'.buf = []) : SInv first S' (newW first S' W.length) where
  f1 := h.f1
  nx := by rw [newW_len, hn]; exact h.nx
  st := fun k hk => by rw [newW_len] at hk; rw [newW_get _ _ _ _ hk]
  z := by rw [newW_len]; exact hz
  un := hu
  b0 := hb
/-- Nothing has turned. -/
theorem SInv.same (h : SInv first S W) (S' : PS) (hn : S'.next = S.next) (hf : S'.f = S.f) (hu : S'.under = S.under) (hb : S'.under = 0 → S'.buf = []) : MO first S' W ∧ SInv first S' (newW first S' W.length) := by
  have hu' : ∀ x, S'.f x = 1 ↔ (x = S'.under ∧ 0 < S'.under) := fun x => by rw [hf, hu]; exact h.un x
  refine ⟨⟨⟨0, fun k hk _ => by rw [hf]; exact h.st k hk⟩, fun k hk => .inl (by rw [hf]; exact (h.st k hk).symm), fun k hk => by rw [hf, hu]; exact h.opn k, by rw [hf]; exact h.z _ (.inr (Int.le_refl _)), by rw [hf]; exact h.z _ (.inl (by omega))⟩, h.news hn (fun x hx => by rw [hf]; exact h.z x hx) hu' hb⟩
/-- One status has turned. -/
theorem SInv.set (h : SInv first S W) (S' : PS) (id v : Int) (hn : S'.next = S.next) (hf : ∀ y, S'.f y = if y = id then v else S.f y) (hid : first ≤ id ∧ id < first + (W.length : Int)) (hm : mayP (S.f id) v)
    (hu : ∀ x, S'.f x = 1 ↔ (x = S'.under ∧ 0 < S'.under)) (hb : S'.under = 0 → S'.buf = []) : MO first S' W ∧ SInv first S' (newW first S' W.length) := by
  have hf1 := h.f1
  have hfn : ∀ y, y ≠ id → S'.f y = S.f y := fun y hy => by rw [hf, if_neg hy]
  refine ⟨⟨⟨(id - first).toNat, fun k hk hne => ?_⟩, fun k hk => ?_, fun k hk => ?_, ?_, ?_⟩, h.news hn (fun x hx => ?_) hu hb⟩
  · rw [hfn _ (by omega)]; exact h.st k hk
  · by_cases he : first + (k : Nat) = id
    · rw [← h.st k hk, he, hf, if_pos rfl]; exact hm
    · rw [hfn _ he]; exact .inl (h.st k hk).symm
  · rw [hu]
    constructor
    · intro h'; exact h'.1.symm
    · intro h'; omega
  · rw [hfn _ (by omega)]; exact h.z _ (.inr (Int.le_refl _))
  · rw [hfn _ (by omega)]; exact h.z _ (.inl (by omega))
  · rw [hfn _ (by omega)]; exact h.z x hx
theorem SInv.range (h : SInv first S W) {id : Int} (hne : S.f id ≠ 0) : first ≤ id ∧ id < first + (W.length : Int) := by
  by_cases h1 : id < first
  · exact absurd (h.z id (.inl h1)) hne
  · by_cases h2 : first + (W.length : Int) ≤ id
    · exact absurd (h.z id (.inr h2)) hne
    · omega
theorem SInv.und (h : SInv first S W) (hp : 0 < S.under) : S.f S.under = 1 := (h.un _).2 ⟨rfl, hp⟩
/-- Trigger: begun, or refused. -/
theorem SInv.trig (h : SInv first S W) : (S.trig.2.1 = 0 ∧ S.trig.1 = first + (W.length : Int) ∧ MO first S.trig.2.2 (W ++ [0]) ∧ SInv first S.trig.2.2 (newW first S.trig.2.2 (W.length + 1))) ∨ (S.trig.2.1 ≠ 0 ∧ S.trig.1 = 0 ∧ S.trig.2.2 = S) := by
  unfold PS.trig
  have hf1 := h.f1
  by_cases h1 : 0 < S.under
  · rw [if_pos h1]; exact .inr ⟨show (141 : Int) ≠ 0 by decide, rfl, rfl⟩
  · rw [if_neg h1]
    by_cases h2 : 9999 < S.next
    · rw [if_pos h2]; exact .inr ⟨show (142 : Int) ≠ 0 by decide, rfl, rfl⟩
    · rw [if_neg h2]
      left
      have hnx := h.nx
      have hlen : (W ++ [0]).length = W.length + 1 := by simp
      have h0 : ∀ x, S.f x ≠ 1 := fun x hx => h1 ((h.un x).1 hx).2
      have hm : SInv first (S.setN (S.next + 1)) (W ++ [0]) := by
        refine ⟨hf1, ?_, fun k hk => ?_, fun x hx => ?_, h.un, h.b0⟩
        · show S.next + 1 = _
          rw [hlen, hnx]; omega
        · show S.f _ = _
          rw [hlen] at hk
          by_cases hkl : k < W.length
          · rw [h.st k hkl]; simp [List.getD_eq_getElem?_getD, List.getElem?_append_left hkl]
          · have : k = W.length := by omega
            subst this
            rw [h.z _ (.inr (Int.le_refl _))]
            simp
        · rw [hlen] at hx
          exact h.z x (by omega)
      have := hm.set ((((S.setU S.next).setN (S.next + 1)).setF S.next 1).emptied) S.next 1 rfl (fun y => rfl) (by rw [hlen, hnx]; omega) (by
        show mayP (S.f S.next) 1
        rw [h.z S.next (.inr (by rw [hnx]; exact Int.le_refl _))]
        exact .inr (.inl ⟨rfl, rfl⟩)) (fun x => by
          show (if x = S.next then (1 : Int) else S.f x) = 1 ↔ (x = S.next ∧ 0 < S.next)
          by_cases hx : x = S.next
          · rw [if_pos hx]; simp [hx]; omega
          · rw [if_neg hx]; simp [hx, h0 x]) (fun _ => rfl)
      rw [hlen] at this
      exact ⟨rfl, by rw [hnx], this⟩
theorem SInv.hand (h : SInv first S W) (id t : Int) (x : S40) : MO first (S.hand id t x).2 W ∧ SInv first (S.hand id t x).2 (newW first (S.hand id t x).2 W.length) := by
  unfold PS.hand
  by_cases h1 : t < 0 ∨ (S.n : Int) ≤ t
  · rw [if_pos h1]; exact h.same S rfl rfl rfl h.b0
  · rw [if_neg h1]
    by_cases h2 : S.under = 0 ∨ ¬ id = S.under
    · rw [if_pos h2]; exact h.same S rfl rfl rfl h.b0
    · rw [if_neg h2]
      by_cases h3 : ¬ S.wh.getD t.toNat 0 = 0
      · rw [if_pos h3]; exact h.same S rfl rfl rfl h.b0
      · rw [if_neg h3]
        exact h.same _ rfl rfl rfl (fun hu => absurd (.inl hu) h2)
theorem SInv.took (h : SInv first S W) {t : Nat} {x : S40} {rest : List (Nat × S40)} (hb : S.buf = (t, x) :: rest) : MO first (S.took t x) W ∧ SInv first (S.took t x) (newW first (S.took t x) W.length) :=
  h.same _ rfl rfl rfl (fun hu => by have := h.b0 hu; rw [hb] at this; cases this)
theorem SInv.shot (h : SInv first S W) (ok : S.Ok) {t : Nat} {x : S40} {rest : List (Nat × S40)} (hb : S.buf = (t, x) :: rest) : MO first (S.took t x).shot W ∧ SInv first (S.took t x).shot (newW first (S.took t x).shot W.length) := by
  have hne : S.under ≠ 0 := fun hu => by have := h.b0 hu; rw [hb] at this; cases this
  have hp : 0 < S.under := by have := ok.u1; omega
  have h1 := h.und hp
  refine h.set _ S.under 2 rfl (fun y => rfl) (h.range (by rw [h1]; decide)) (by rw [h1]; exact .inr (.inr (.inl ⟨rfl, .inl rfl⟩))) (fun x' => ?_) (fun _ => rfl)
  show (if x' = S.under then (2 : Int) else S.f x') = 1 ↔ (x' = 0 ∧ (0 : Int) < 0)
  by_cases hx : x' = S.under
  · rw [if_pos hx]; simp
  · rw [if_neg hx, h.un]; simp [hx]
theorem SInv.abort (h : SInv first S W) (ok : S.Ok) : MO first S.abort.2.2 W ∧ SInv first S.abort.2.2 (newW first S.abort.2.2 W.length) := by
  unfold PS.abort
  by_cases hu : S.under = 0
  · rw [if_pos hu]; exact h.same S rfl rfl rfl h.b0
  · rw [if_neg hu]
    have hp : 0 < S.under := by have := ok.u1; omega
    have h1 := h.und hp
    refine h.set _ S.under 4 rfl (fun y => rfl) (h.range (by rw [h1]; decide)) (by rw [h1]; exact .inr (.inr (.inl ⟨rfl, .inr rfl⟩))) (fun x' => ?_) (fun _ => rfl)
    show (if x' = S.under then (4 : Int) else S.f x') = 1 ↔ (x' = 0 ∧ (0 : Int) < 0)
    by_cases hx : x' = S.under
    · rw [if_pos hx]; simp
    · rw [if_neg hx, h.un]; simp [hx]
theorem SInv.settle (h : SInv first S W) (id : Int) (b : Bool) : MO first (S.settle id b).2 W ∧ SInv first (S.settle id b).2 (newW first (S.settle id b).2 W.length) := by
  unfold PS.settle
  by_cases h2 : S.f id = 2
  · rw [if_pos h2]
    have hid : id ≠ S.under ∨ ¬ 0 < S.under := by
      by_cases hu : id = S.under
      · right; intro hp; have := h.und hp; rw [← hu, h2] at this; cases this
      · exact .inl hu
    have hun : ∀ (v : Int), v ≠ 1 → ∀ x, (if x = id then v else S.f x) = 1 ↔ (x = S.under ∧ 0 < S.under) := fun v hv x => by
      by_cases hx : x = id
      · rw [if_pos hx, hx]
        constructor
        · intro h'; exact absurd h' hv
        · intro h'; rcases hid with hid | hid
          · exact absurd h'.1 hid
          · exact absurd h'.2 hid
      · rw [if_neg hx]; exact h.un x
    cases b with
    | true =>
      refine h.set _ id 3 rfl (fun y => ?_) (h.range (by rw [h2]; decide)) (by rw [h2]; exact .inr (.inr (.inr ⟨rfl, .inl rfl⟩))) (fun x => ?_) h.b0
      · show (if y = id then (3 : Int) else if y = id then 4 else S.f y) = _
        by_cases hy : y = id
        · rw [if_pos hy, if_pos hy]
        · rw [if_neg hy, if_neg hy, if_neg hy]
      · show (if x = id then (3 : Int) else if x = id then 4 else S.f x) = 1 ↔ _
        rw [show (if x = id then (3 : Int) else if x = id then 4 else S.f x) = (if x = id then 3 else S.f x) by
          by_cases hy : x = id
          · rw [if_pos hy, if_pos hy]
          · rw [if_neg hy, if_neg hy, if_neg hy]]
        exact hun 3 (by decide) x
    | false => exact h.set _ id 4 rfl (fun y => rfl) (h.range (by rw [h2]; decide)) (by rw [h2]; exact .inr (.inr (.inr ⟨rfl, .inr rfl⟩))) (hun 4 (by decide)) h.b0
  · rw [if_neg h2]; exact h.same S rfl rfl rfl h.b0
/-- What Status says behind Settle. -/
theorem settle_says (id : Int) (b : Bool) (h2 : S.f id = 2) : (S.settle id b).2.f id = if b then 3 else 4 := by
  unfold PS.settle
  rw [if_pos h2]
  cases b with
  | true => show (if id = id then (3 : Int) else _) = 3; rw [if_pos rfl]
  | false => show (if id = id then (4 : Int) else _) = 4; rw [if_pos rfl]
theorem SInv.new (n : Nat) (first sum : Int) (h : 1 ≤ first) : SInv first (PS.new n first sum) [] where
  f1 := h
  nx := by show first = first + ((0 : Nat) : Int); omega
  st := fun k hk => by simp at hk
  z := fun _ _ => rfl
  un := fun x => by show (0 : Int) = 1 ↔ _ ∧ (0 : Int) < 0; simp
  b0 := fun _ => rfl
end
end Go.Proofs.Ytcbaiplamaopeaa.PPostShots
