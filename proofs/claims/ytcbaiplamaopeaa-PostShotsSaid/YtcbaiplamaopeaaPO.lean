/- PostShots, plainly: what the statement knows of the snapshot under way. -/
import Derived.Test.YtcbaiplamaopeaaPJ
namespace Go.Proofs.Ytcbaiplamaopeaa.PPostShots
open Go.RowKit Go.Conc Go.Proofs.YtcbaiplamaopeaaW.PrintWords Go.Proofs.YtcbaiplamaopeaaW.PrintLast Go.Proofs.Ytcbaiplamaopeaa.PPost
set_option linter.unusedVariables false
set_option linter.unusedSimpArgs false

/-- What the statement knows. -/
structure ST where
  id : Int
  hd : List Int
  count : Int
  picked : Int
  next : Int
  marks : Int
/-- Where a task's part is. -/
def Where (S : PS) (T : ST) (t : Nat) : Prop :=
  (S.wh.getD t 0 = 0 ∧ T.hd.getD t 0 = 0) ∨ (S.wh.getD t 0 = 1 ∧ T.hd.getD t 0 ≠ 0 ∧ ∃ e ∈ S.buf, e.1 = t ∧ e.2 = prt (T.hd.getD t 0)) ∨ (S.wh.getD t 0 = 2 ∧ T.hd.getD t 0 ≠ 0 ∧ S.ps.getD t z40 = prt (T.hd.getD t 0))
/-- It agrees with the coordinator. -/
structure SS (n : Nat) (sum : Int) (S : PS) (T : ST) : Prop where
  en : S.n = n
  sm : S.sum = sum
  un : S.under = T.id
  nx : S.next = T.next
  b0 : S.under = 0 → S.buf = []
  pk : 0 < T.id → T.picked = (S.wh.count 2 : Nat)
  cb : 0 < T.id → ((S.buf.length : Nat) : Int) + T.picked = T.count
  hl : 0 < T.id → T.hd.length = n
  al : 0 < T.id → ∀ t, t < n → Where S T t
theorem count_set {l : List Int} {t : Nat} {a b : Int} (ht : l[t]? = some a) (ha : a ≠ 2) : (l.set t b).count 2 = l.count 2 + if b = 2 then 1 else 0 := by
  induction l generalizing t with
  | nil => simp at ht
  | cons x l ih =>
    cases t with
    | zero =>
      simp at ht
      subst ht
      simp only [List.set_cons_zero, List.count_cons]
      have : (x == 2) = false := by simpa using ha
      rw [this]
      by_cases hb : b = 2 <;> simp [hb]
    | succ t =>
      simp only [List.set_cons_succ, List.count_cons]
      rw [ih (by simpa using ht)]
      omega
theorem leftOf_count (wh : List Int) : ∀ k, k ≤ wh.length → (leftOf wh k).length + (wh.take k).count 2 = k
  | 0, _ => by simp [leftOf]
  | k + 1, h => by
    have ih := leftOf_count wh k (by omega)
    rw [List.take_succ_eq_append_getElem (by omega), List.count_append]
    unfold leftOf
    rw [List.getD_eq_getElem?_getD, List.getElem?_eq_getElem (by omega), Option.getD_some]
    by_cases hc : wh[k] = 2
    · rw [if_pos hc, hc]; simp; omega
    · rw [if_neg hc, List.length_append]
      have : ([wh[k]] : List Int).count 2 = 0 := by rw [List.count_eq_zero]; simp; exact fun e => hc e.symm
      rw [this]; simp; omega
section
variable {n : Nat} {sum : Int} {S : PS} {T : ST}
theorem SS.pos (h : SS n sum S T) (ok : S.Ok) : 0 < T.id ∨ T.id = 0 := by
  have := ok.u1
  rw [h.un] at this
  omega
/-- What Open tells. -/
theorem SS.opened (h : SS n sum S T) (ok : S.Ok) : S.open_.1 = T.id ∧ (0 < T.id → ((S.open_.2.length : Nat) : Int) = n - T.picked) ∧ (T.id = 0 → S.open_.2 = []) := by
  unfold PS.open_
  by_cases hu : S.under = 0
  · rw [if_pos hu]
    rw [h.un] at hu
    exact ⟨hu.symm, fun hp => by omega, fun _ => rfl⟩
  · rw [if_neg hu]
    refine ⟨h.un, fun hp => ?_, fun h0 => absurd (h.un.trans h0) hu⟩
    have h1 := leftOf_count S.wh S.n (by rw [ok.lw]; exact Nat.le_refl _)
    rw [List.take_of_length_le (by rw [ok.lw]; exact Nat.le_refl _), h.en] at h1
    rw [h.pk hp]
    show ((leftOf S.wh S.n).length : Int) = _
    rw [h.en]
    omega
def ST.trigd (T : ST) (n : Nat) : ST := { T with id := T.next, next := T.next + 1, hd := List.replicate n 0, count := 0, picked := 0 }
theorem SS.trig (h : SS n sum S T) (ok : S.Ok) : (0 < T.id ∧ S.trig = (0, 141, S)) ∨ (¬ 0 < T.id ∧ 9999 < T.next ∧ S.trig = (0, 142, S)) ∨ (¬ 0 < T.id ∧ ¬ 9999 < T.next ∧ S.trig.1 = T.next ∧ S.trig.2.1 = 0 ∧ SS n sum S.trig.2.2 (T.trigd n)) := by
  unfold PS.trig
  rw [h.un, h.nx]
  by_cases h1 : 0 < T.id
  · left; rw [if_pos h1]; exact ⟨h1, rfl⟩
  · right
    rw [if_neg h1]
    by_cases h2 : 9999 < T.next
    · left; rw [if_pos h2]; exact ⟨h1, h2, rfl⟩
    · right
      rw [if_neg h2]
      have hx := ok.x1
      rw [h.nx] at hx
      refine ⟨h1, h2, rfl, rfl, ⟨h.en, h.sm, rfl, rfl, fun _ => rfl, fun _ => ?_, fun _ => rfl, fun _ => List.length_replicate, fun _ t ht => .inl ⟨?_, ?_⟩⟩⟩
      · show (0 : Int) = ((List.replicate S.n (0 : Int)).count 2 : Nat)
        rw [List.count_eq_zero.2 (fun hm => by have := List.eq_of_mem_replicate hm; cases this)]
        rfl
      · show (List.replicate S.n (0 : Int)).getD t 0 = 0
        rw [List.getD_eq_getElem?_getD, List.getElem?_replicate]
        by_cases hc : t < S.n <;> simp [hc]
      · show (List.replicate n (0 : Int)).getD t 0 = 0
        rw [List.getD_eq_getElem?_getD, List.getElem?_replicate]
        by_cases hc : t < n <;> simp [hc]
/-- Is the part taken? -/
def takesP (n : Nat) (T : ST) (id t : Int) : Prop := (0 ≤ t ∧ t < n) ∧ 0 < T.id ∧ id = T.id ∧ T.hd.getD t.toNat 0 = 0
def ST.marked (T : ST) : ST := { T with marks := T.marks + 1 }
def ST.tookIn (T : ST) (t : Nat) : ST := { T with hd := T.hd.set t T.marks, count := T.count + 1 }
theorem SS.marked (h : SS n sum S T) : SS n sum S T.marked := ⟨h.en, h.sm, h.un, h.nx, h.b0, h.pk, h.cb, h.hl, h.al⟩
theorem SS.refused (h : SS n sum S T) (ok : S.Ok) (id t : Int) (x : S40) (hn : ¬ takesP n T id t) : (S.hand id t x).1 ≠ 0 ∧ (S.hand id t x).2 = S := by
  unfold PS.hand
  by_cases h1 : t < 0 ∨ (S.n : Int) ≤ t
  · rw [if_pos h1]; exact ⟨show (144 : Int) ≠ 0 by decide, rfl⟩
  · rw [if_neg h1]
    by_cases h2 : S.under = 0 ∨ ¬ id = S.under
    · rw [if_pos h2]; exact ⟨show (143 : Int) ≠ 0 by decide, rfl⟩
    · rw [if_neg h2]
      rw [h.en] at h1
      rw [h.un] at h2
      have hp : 0 < T.id := by rcases h.pos ok with hp | hp <;> omega
      by_cases h3 : ¬ S.wh.getD t.toNat 0 = 0
      · rw [if_pos h3]; exact ⟨show (145 : Int) ≠ 0 by decide, rfl⟩
      · exfalso
        refine hn ⟨by omega, hp, by omega, ?_⟩
        rcases h.al hp t.toNat (by omega) with ⟨-, h4⟩ | ⟨h4, -⟩ | ⟨h4, -⟩
        · exact h4
        · rw [h4] at h3; exact absurd (by decide) h3
        · rw [h4] at h3; exact absurd (by decide) h3
theorem SS.taken (h : SS n sum S T) (ok : S.Ok) (id : Int) (t : Nat) (ht : takesP n T id t) (hm : 0 < T.marks) : S.hand id t (prt T.marks) = (0, S.handed t (prt T.marks)) ∧ SS n sum (S.handed t (prt T.marks)) (T.tookIn t) := by
  obtain ⟨⟨h0, h1⟩, hp, hid, hz⟩ := ht
  rw [Int.toNat_natCast] at hz
  have htn : t < n := by omega
  have hw : S.wh.getD t 0 = 0 := by
    rcases h.al hp t htn with ⟨h4, -⟩ | ⟨-, h4, -⟩ | ⟨-, h4, -⟩
    · exact h4
    · exact absurd hz h4
    · exact absurd hz h4
  have hlw : t < S.wh.length := by rw [ok.lw, h.en]; exact htn
  have hwt : S.wh[t]? = some 0 := by rw [List.getD_eq_getElem?_getD, List.getElem?_eq_getElem hlw, Option.getD_some] at hw; rw [List.getElem?_eq_getElem hlw, hw]
  constructor
  · unfold PS.hand
    rw [if_neg (by rw [h.en]; omega), if_neg (by rw [h.un]; intro hc; rcases hc with hc | hc <;> omega), Int.toNat_natCast, if_neg (by rw [hw]; decide)]
  · refine ⟨h.en, h.sm, h.un, h.nx, fun hu => by rw [show (S.handed t (prt T.marks)).under = S.under from rfl, h.un] at hu; omega, fun _ => ?_, fun _ => ?_, fun _ => ?_, fun _ j hj => ?_⟩
    · show T.picked = ((S.wh.set t 1).count 2 : Nat)
      rw [count_set hwt (by decide), if_neg (by decide), h.pk hp]
      rfl
    · show (((S.buf ++ [(t, prt T.marks)]).length : Nat) : Int) + T.picked = T.count + 1
      rw [List.length_append, List.length_singleton]
      have := h.cb hp
      omega
    · show (T.hd.set t T.marks).length = n
      rw [List.length_set]; exact h.hl hp
    · by_cases hjt : j = t
      · subst hjt
        right; left
        have hg : (T.hd.set j T.marks).getD j 0 = T.marks := by rw [List.getD_eq_getElem?_getD, List.getElem?_set_self (by rw [h.hl hp]; exact htn)]; rfl
        refine ⟨?_, ?_, (j, prt T.marks), ?_, rfl, ?_⟩
        · show (S.wh.set j 1).getD j 0 = 1
          rw [List.getD_eq_getElem?_getD, List.getElem?_set_self hlw]; rfl
        · show (T.hd.set j T.marks).getD j 0 ≠ 0
          rw [hg]; omega
        · show _ ∈ S.buf ++ _; simp
        · show prt T.marks = prt ((T.hd.set j T.marks).getD j 0)
          rw [hg]
      · have e1 : (S.wh.set t 1).getD j 0 = S.wh.getD j 0 := by rw [List.getD_eq_getElem?_getD, List.getElem?_set_ne (fun e => hjt e.symm), ← List.getD_eq_getElem?_getD]
        have e2 : (T.hd.set t T.marks).getD j 0 = T.hd.getD j 0 := by rw [List.getD_eq_getElem?_getD, List.getElem?_set_ne (fun e => hjt e.symm), ← List.getD_eq_getElem?_getD]
        show ((S.wh.set t 1).getD j 0 = 0 ∧ (T.hd.set t T.marks).getD j 0 = 0) ∨ ((S.wh.set t 1).getD j 0 = 1 ∧ (T.hd.set t T.marks).getD j 0 ≠ 0 ∧ ∃ e ∈ S.buf ++ [(t, prt T.marks)], e.1 = j ∧ e.2 = prt ((T.hd.set t T.marks).getD j 0)) ∨ ((S.wh.set t 1).getD j 0 = 2 ∧ (T.hd.set t T.marks).getD j 0 ≠ 0 ∧ S.ps.getD j z40 = prt ((T.hd.set t T.marks).getD j 0))
        rw [e1, e2]
        rcases h.al hp j hj with h4 | ⟨h4, h5, e, he, h6⟩ | h4
        · exact .inl h4
        · exact .inr (.inl ⟨h4, h5, e, List.mem_append_left _ he, h6⟩)
        · exact .inr (.inr h4)
def ST.pickd (T : ST) : ST := { T with picked := T.picked + 1 }
def ST.over (T : ST) : ST := { T with id := 0 }
/-- Nothing to be picked. -/
theorem SS.none (h : SS n sum S T) (ok : S.Ok) : S.buf = [] ↔ (T.id = 0 ∨ T.picked = T.count) := by
  constructor
  · intro hb
    rcases h.pos ok with hp | hp
    · right; have := h.cb hp; rw [hb] at this; simpa using this
    · exact .inl hp
  · intro hc
    rcases h.pos ok with hp | hp
    · rcases hc with hc | hc
      · omega
      · have := h.cb hp
        exact List.length_eq_zero_iff.1 (by omega)
    · exact h.b0 (h.un.trans hp)
theorem SS.took (h : SS n sum S T) (ok : S.Ok) {t : Nat} {x : S40} {rest : List (Nat × S40)} (hb : S.buf = (t, x) :: rest) :
    0 < T.id ∧ SS n sum (S.took t x) T.pickd ∧ ((S.took t x).all2 = true ↔ T.picked + 1 = (n : Int)) ∧ T.picked + 1 ≤ (n : Int) ∧ 0 ≤ T.picked := by
  have hp : 0 < T.id := by
    rcases h.pos ok with hp | hp
    · exact hp
    · have := h.b0 (h.un.trans hp); rw [hb] at this; cases this
  have hwt := ok.bw (t, x) (by rw [hb]; simp)
  simp only [] at hwt
  have htn : t < n := by have := (List.getElem?_eq_some_iff.1 hwt).1; rw [ok.lw, h.en] at this; exact this
  have hlw : (S.wh.set t 2).length = n := by rw [List.length_set, ok.lw, h.en]
  have hcnt : (S.wh.set t 2).count 2 = S.wh.count 2 + 1 := by rw [count_set hwt (by decide), if_pos rfl]
  have hnd := ok.nd
  rw [hb, List.map_cons, List.nodup_cons] at hnd
  have hx : x = prt (T.hd.getD t 0) ∧ T.hd.getD t 0 ≠ 0 := by
    have hw1 : S.wh.getD t 0 = 1 := by rw [List.getD_eq_getElem?_getD, hwt]; rfl
    rcases h.al hp t htn with ⟨h4, -⟩ | ⟨-, h5, e, he, h6, h7⟩ | ⟨h4, -⟩
    · rw [hw1] at h4; cases h4
    · rw [hb] at he
      rcases List.mem_cons.1 he with he | he
      · subst he; exact ⟨h7, h5⟩
      · exact absurd (List.mem_map.2 ⟨e, he, h6⟩) hnd.1
    · rw [hw1] at h4; cases h4
  have hle : (S.wh.set t 2).count 2 ≤ n := by rw [← hlw]; exact List.count_le_length
  have hpk := h.pk hp
  refine ⟨hp, ⟨h.en, h.sm, h.un, h.nx, fun hu => ?_, fun _ => ?_, fun _ => ?_, h.hl, fun _ j hj => ?_⟩, ?_, by omega, by omega⟩
  · rw [show (S.took t x).under = S.under from rfl, h.un] at hu; omega
  · show T.picked + 1 = ((S.wh.set t 2).count 2 : Nat)
    rw [hcnt, hpk]; rfl
  · show ((S.buf.tail.length : Nat) : Int) + (T.picked + 1) = T.count
    have := h.cb hp
    rw [hb] at this ⊢
    simp at this ⊢
    omega
  · by_cases hjt : j = t
    · subst hjt
      right; right
      refine ⟨?_, hx.2, ?_⟩
      · show (S.wh.set j 2).getD j 0 = 2
        rw [List.getD_eq_getElem?_getD, List.getElem?_set_self (by rw [ok.lw, h.en]; exact htn)]; rfl
      · show (S.ps.set j x).getD j z40 = _
        rw [List.getD_eq_getElem?_getD, List.getElem?_set_self (by rw [ok.lp, h.en]; exact htn)]
        exact hx.1
    · have e1 : (S.wh.set t 2).getD j 0 = S.wh.getD j 0 := by rw [List.getD_eq_getElem?_getD, List.getElem?_set_ne (fun e => hjt e.symm), ← List.getD_eq_getElem?_getD]
      have e2 : (S.ps.set t x).getD j z40 = S.ps.getD j z40 := by rw [List.getD_eq_getElem?_getD, List.getElem?_set_ne (fun e => hjt e.symm), ← List.getD_eq_getElem?_getD]
      show ((S.wh.set t 2).getD j 0 = 0 ∧ T.hd.getD j 0 = 0) ∨ ((S.wh.set t 2).getD j 0 = 1 ∧ T.hd.getD j 0 ≠ 0 ∧ ∃ e ∈ S.buf.tail, e.1 = j ∧ e.2 = prt (T.hd.getD j 0)) ∨ ((S.wh.set t 2).getD j 0 = 2 ∧ T.hd.getD j 0 ≠ 0 ∧ (S.ps.set t x).getD j z40 = prt (T.hd.getD j 0))
      rw [e1, e2]
      rcases h.al hp j hj with h4 | ⟨h4, h5, e, he, h6⟩ | h4
      · exact .inl h4
      · right; left
        refine ⟨h4, h5, e, ?_, h6⟩
        rw [hb] at he ⊢
        rcases List.mem_cons.1 he with he | he
        · subst he; exact absurd h6.1.symm hjt
        · exact he
      · exact .inr (.inr h4)
  · unfold PS.all2
    show ((S.wh.set t 2).all (· == 2)) = true ↔ _
    rw [List.all_eq_true]
    constructor
    · intro ha
      have : (S.wh.set t 2).count 2 = (S.wh.set t 2).length := List.count_eq_length.2 (fun b hb' => by have := ha b hb'; simp at this; exact this.symm)
      rw [hlw, hcnt] at this
      omega
    · intro hk b hb'
      have : (S.wh.set t 2).count 2 = (S.wh.set t 2).length := by rw [hlw, hcnt]; omega
      have := List.count_eq_length.1 this b hb'
      simp [← this]
/-- Who waits and who is gathered are two. -/
theorem bufs_two {S : PS} (ok : S.Ok) : (S.buf.map (·.1)).length + S.wh.count 2 ≤ S.wh.length := by
  have h1 : (S.buf.map (·.1)).length ≤ S.wh.count 1 := by
    have key : ∀ (l : List Int) (ts : List Nat), ts.Nodup → (∀ t ∈ ts, l[t]? = some 1) → ts.length ≤ l.count 1 := by
      intro l
      induction l with
      | nil => intro ts _ h; cases ts with
        | nil => simp
        | cons a ts => have := h a (by simp); simp at this
      | cons x l ih =>
        intro ts hnd h
        have h2 := ih ((ts.erase 0).map (· - 1)) ?_ ?_
        · rw [List.length_map] at h2
          rw [List.count_cons]
          by_cases h0 : 0 ∈ ts
          · have := h 0 h0
            simp at this
            subst this
            rw [List.length_erase_of_mem h0] at h2
            simp
            omega
          · rw [List.erase_of_not_mem h0] at h2
            omega
        · have hnd2 := hnd.erase 0
          refine (List.pairwise_map).2 (hnd2.imp_of_mem ?_)
          intro a b ha hb hab he
          have h1 := ((List.Nodup.mem_erase_iff hnd).1 ha).1
          have h2 := ((List.Nodup.mem_erase_iff hnd).1 hb).1
          omega
        · intro t ht
          obtain ⟨u, hu, rfl⟩ := List.mem_map.1 ht
          obtain ⟨h1, h2⟩ := (List.Nodup.mem_erase_iff hnd).1 hu
          have := h u h2
          rw [show u = (u - 1) + 1 by omega, List.getElem?_cons_succ] at this
          exact this
    exact key S.wh _ ok.nd (fun t ht => by
      obtain ⟨e, he, rfl⟩ := List.mem_map.1 ht
      exact ok.bw e he)
  have h2 : ∀ l : List Int, l.count 1 + l.count 2 ≤ l.length := by
    intro l
    induction l with
    | nil => simp
    | cons x l ih =>
      simp only [List.count_cons, List.length_cons]
      by_cases h1 : x = 1
      · subst h1; simp; omega
      · by_cases h2 : x = 2
        · subst h2; simp; omega
        · simp [h1, h2]; omega
  have := h2 S.wh
  omega
theorem SS.shot (h : SS n sum S T) : SS n sum S.shot T.over := by
  refine ⟨h.en, h.sm, rfl, h.nx, fun _ => rfl, fun hp => ?_, fun hp => ?_, fun hp => ?_, fun hp => ?_⟩ <;> exact absurd hp (by show ¬ (0 : Int) < 0; decide)
theorem SS.full (h : SS n sum S T) (ok : S.Ok) (hp : 0 < T.id) (ha : S.all2 = true) : ∀ t, t < n → S.ps.getD t z40 = prt (T.hd.getD t 0) := by
  intro t ht
  have hlw : t < S.wh.length := by rw [ok.lw, h.en]; exact ht
  have hw2 : S.wh.getD t 0 = 2 := by
    unfold PS.all2 at ha
    rw [List.all_eq_true] at ha
    have := ha S.wh[t] (List.getElem_mem hlw)
    rw [List.getD_eq_getElem?_getD, List.getElem?_eq_getElem hlw, Option.getD_some]
    simpa using this
  rcases h.al hp t ht with ⟨h4, -⟩ | ⟨h4, -⟩ | ⟨-, -, h4⟩
  · rw [hw2] at h4; cases h4
  · rw [hw2] at h4; cases h4
  · exact h4
theorem SS.full2 {n : Nat} {sum : Int} {S : PS} {T : ST} (h : SS n sum S T.pickd) (ha : S.all2 = true) (hp : 0 < T.id) (t : Nat) (ht : t < n) {S0 : PS} {u : Nat} {x : S40} (ok : S0.Ok) (he : S = S0.took u x := by rfl) : S.ps.getD t z40 = prt (T.hd.getD t 0) := by
  subst he
  have hlw : t < (S0.took u x).wh.length := by
    show t < (S0.wh.set u 2).length
    rw [List.length_set, ok.lw]
    have := h.en
    exact Nat.lt_of_lt_of_le ht (Nat.le_of_eq this.symm)
  have hw2 : (S0.took u x).wh.getD t 0 = 2 := by
    unfold PS.all2 at ha
    rw [List.all_eq_true] at ha
    have := ha _ (List.getElem_mem hlw)
    rw [List.getD_eq_getElem?_getD, List.getElem?_eq_getElem hlw, Option.getD_some]
    simpa using this
  rcases h.al hp t ht with ⟨h4, -⟩ | ⟨h4, -⟩ | ⟨-, -, h4⟩
  · rw [hw2] at h4; cases h4
  · rw [hw2] at h4; cases h4
  · exact h4
theorem SS.abort (h : SS n sum S T) (ok : S.Ok) : S.abort.1 = T.id ∧ (0 < T.id ↔ S.abort.2.1 = 0) ∧ SS n sum S.abort.2.2 T.over := by
  unfold PS.abort
  rw [h.un]
  rcases h.pos ok with hp | hp
  · rw [if_neg (by omega)]
    refine ⟨rfl, ⟨fun _ => rfl, fun _ => hp⟩, ⟨h.en, h.sm, rfl, h.nx, fun _ => rfl, fun hp => ?_, fun hp => ?_, fun hp => ?_, fun hp => ?_⟩⟩ <;> exact absurd hp (by show ¬ (0 : Int) < 0; decide)
  · rw [if_pos hp]
    refine ⟨hp.symm, ⟨fun h' => by omega, fun h' => by cases h'⟩, ⟨h.en, h.sm, h.un.trans hp, h.nx, h.b0, fun hp => ?_, fun hp => ?_, fun hp => ?_, fun hp => ?_⟩⟩ <;> exact absurd hp (by show ¬ (0 : Int) < 0; decide)
theorem SS.new (n : Nat) (first sum : Int) : SS n sum (PS.new n first sum) ⟨0, [], 0, 0, first, 0⟩ := by
  refine ⟨rfl, rfl, rfl, rfl, fun _ => rfl, fun hp => ?_, fun hp => ?_, fun hp => ?_, fun hp => ?_⟩ <;> exact absurd hp (by show ¬ (0 : Int) < 0; decide)
end
end Go.Proofs.Ytcbaiplamaopeaa.PPostShots
