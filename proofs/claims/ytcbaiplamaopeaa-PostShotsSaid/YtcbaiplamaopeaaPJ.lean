/- PostRound, plainly: all tasks hand in, all parts are picked. -/
import Derived.Test.YtcbaiplamaopeaaPI
namespace Go.Proofs.Ytcbaiplamaopeaa.PPostShots
open Go.RowKit Go.Conc Go.Proofs.YtcbaiplamaopeaaW.PrintWords Go.Proofs.YtcbaiplamaopeaaW.PrintLast Go.Proofs.Ytcbaiplamaopeaa.PPost
set_option linter.unusedVariables false
set_option linter.unusedSimpArgs false

/-- A part that tells its number. -/
def prt (k : Int) : S40 := ⟨⟨k, []⟩, [[⟨⟨#[107]⟩, ⟨0, 0, ⟨#[]⟩, []⟩, [Int.tmod k 10]⟩]], [⟨⟨#[]⟩, ⟨1, k, ⟨#[]⟩, []⟩, []⟩]⟩
theorem prt_parts (k : Int) : partsP (prt k) ≤ 100000 := by
  simp [partsP, prt, partsC, partsLs, partsRs, partsR, partsV]
theorem part11 (k : Int) (w : World) : Calls Try.prog 11 #[.int .i64 k] w fun e w' => ∃ A1 c1 A2 c2 A3 c3, e = .returned (.agg #[.int .i64 (prt k).f0.f0, .slice A1 (prt k).f0.f1.length c1, .slice A2 (prt k).f1.length c2, .slice A3 (prt k).f2.length c3]) ∧
    Hid (Kd.C k103 w' A1 (prt k).f0.f1.length (prt k).f0.f1) ∧ Hid (Kd.C (Kd.slice 83 k83) w' A2 (prt k).f1.length (prt k).f1) ∧ Hid (Kd.C k83 w' A3 (prt k).f2.length (prt k).f2) ∧ Hid ((prt k).f0.f1.length ≤ c1) ∧ Hid (Below w.heap.size w w') := by
  refine (eddylaw14_part.calls k _ _ _ _ w rfl).mono ?_
  rintro e w' ⟨v1, v2, v3, rfl, h1, h2, h3, hb⟩
  obtain ⟨A1, c1, rfl, l1, C1⟩ := Kd.N_reads h1
  obtain ⟨A2, c2, rfl, l2, C2⟩ := Kd.N_reads h2
  obtain ⟨A3, c3, rfl, l3, C3⟩ := Kd.N_reads h3
  exact ⟨A1, c1, A2, c2, A3, c3, rfl, Lib.hid C1, Lib.hid C2, Lib.hid C3, Lib.hid l1, Lib.hid hb⟩
theorem le_len : ∀ (n : Nat) (l : List Nat), (∀ t, t < n → t ∈ l) → n ≤ l.length
  | 0, _, _ => Nat.zero_le _
  | n + 1, l, h => by
    have hm := h n (Nat.lt_succ_self n)
    have := le_len n (l.erase n) (fun t ht => (List.mem_erase_of_ne (by omega)).2 (h t (by omega)))
    rw [List.length_erase_of_mem hm] at this
    have : 0 < l.length := List.length_pos_of_mem hm
    omega
/-- Some have handed in. -/
structure RH (S : PS) (n : Nat) (first sum : Int) (D : List Bool) : Prop where
  en : S.n = n
  un : S.under = first
  sm : S.sum = sum
  ld : D.length = n
  wh : S.wh = D.map (fun b => if b then 1 else 0)
  bx : ∀ e ∈ S.buf, e.2 = prt ((e.1 : Nat) + 1)
  mem : ∀ t, D.getD t false = true → t ∈ S.buf.map (·.1)
theorem RH.whD {S : PS} {n : Nat} {first sum : Int} {D : List Bool} (h : RH S n first sum D) (t : Nat) : S.wh.getD t 0 = if D.getD t false then 1 else 0 := by
  rw [h.wh, List.getD_eq_getElem?_getD, List.getElem?_map, List.getD_eq_getElem?_getD]
  cases D[t]? <;> simp
theorem RH.neg {S : PS} {n : Nat} {first sum : Int} {D : List Bool} (h : RH S n first sum D) (id t : Int) (x : S40) (ht : t < 0 ∨ (n : Int) ≤ t) : S.hand id t x = (144, S) := by
  unfold PS.hand
  rw [if_pos (by rw [h.en]; exact ht)]
theorem RH.twice {S : PS} {n : Nat} {first sum : Int} {D : List Bool} (h : RH S n first sum D) (h1 : 1 ≤ first) (t : Nat) (ht : t < n) (x : S40) (hd : D.getD t false = true) : S.hand first t x = (145, S) := by
  unfold PS.hand
  rw [if_neg (by rw [h.en]; omega), if_neg (by rw [h.un]; intro hc; rcases hc with hc | hc <;> omega), Int.toNat_natCast, if_pos (by rw [h.whD, hd]; decide)]
theorem RH.takes {S : PS} {n : Nat} {first sum : Int} {D : List Bool} (h : RH S n first sum D) (h1 : 1 ≤ first) (t : Nat) (ht : t < n) (hd : D.getD t false = false) :
    S.hand first t (prt ((t : Nat) + 1)) = (0, S.handed t (prt ((t : Nat) + 1))) ∧ RH (S.handed t (prt ((t : Nat) + 1))) n first sum (D.set t true) := by
  constructor
  · unfold PS.hand
    rw [if_neg (by rw [h.en]; omega), if_neg (by rw [h.un]; intro hc; rcases hc with hc | hc <;> omega), Int.toNat_natCast, if_neg (by rw [h.whD, hd]; decide)]
  · refine ⟨h.en, h.un, h.sm, by rw [List.length_set]; exact h.ld, ?_, ?_, ?_⟩
    · show S.wh.set t 1 = _
      rw [h.wh, List.map_set]
      rfl
    · intro e he
      rcases List.mem_append.1 he with he | he
      · exact h.bx e he
      · rw [List.mem_singleton] at he; subst he; rfl
    · intro k hk
      show k ∈ List.map _ (S.buf ++ _)
      rw [List.map_append, List.mem_append]
      by_cases hkt : k = t
      · right; simp [hkt]
      · left
        refine h.mem k ?_
        rw [List.getD_eq_getElem?_getD, List.getElem?_set_ne (fun e => hkt e.symm)] at hk
        rw [List.getD_eq_getElem?_getD]; exact hk
/-- k parts are picked. -/
structure RP (S : PS) (n : Nat) (first sum : Int) (k : Nat) : Prop where
  en : S.n = n
  un : S.under = first
  sm : S.sum = sum
  bx : ∀ e ∈ S.buf, e.2 = prt ((e.1 : Nat) + 1)
  len : S.buf.length + k = n
  all : ∀ t, t < n → (S.wh.getD t 0 = 2 ∧ S.ps.getD t z40 = prt ((t : Nat) + 1)) ∨ t ∈ S.buf.map (·.1)
theorem RH.done {S : PS} {n : Nat} {first sum : Int} {D : List Bool} (h : RH S n first sum D) (ho : S.Ok) (hd : ∀ t, t < n → D.getD t false = true) : RP S n first sum 0 := by
  have hm : ∀ t, t < n → t ∈ S.buf.map (·.1) := fun t ht => h.mem t (hd t ht)
  refine ⟨h.en, h.un, h.sm, h.bx, ?_, fun t ht => .inr (hm t ht)⟩
  have h1 := le_len n _ hm
  have h2 := nodup_le n _ ho.nd (fun t ht => by
    obtain ⟨e, he, rfl⟩ := List.mem_map.1 ht
    have := (List.getElem?_eq_some_iff.1 (ho.bw e he)).1
    rw [ho.lw, h.en] at this
    exact this)
  simp only [List.length_map] at h1 h2
  omega
theorem RP.step {S : PS} {n : Nat} {first sum : Int} {k : Nat} (h : RP S n first sum k) (ho : S.Ok) (hk : k < n) : ∃ t x rest, S.buf = (t, x) :: rest ∧ RP (S.took t x) n first sum (k + 1) ∧ ((S.took t x).all2 = true ↔ k + 1 = n) ∧ t < n := by
  have hl := h.len
  match hb : S.buf with
  | [] => rw [hb] at hl; simp at hl; omega
  | (t, x) :: rest =>
    have hnd := ho.nd
    rw [hb, List.map_cons, List.nodup_cons] at hnd
    have htw := ho.bw (t, x) (by rw [hb]; simp)
    have htn : t < n := by have := (List.getElem?_eq_some_iff.1 htw).1; rw [ho.lw, h.en] at this; exact this
    have hrp : RP (S.took t x) n first sum (k + 1) := by
      refine ⟨h.en, h.un, h.sm, ?_, ?_, ?_⟩
      · intro e he
        have he' : e ∈ rest := by have : e ∈ S.buf.tail := he; rw [hb] at this; exact this
        exact h.bx e (by rw [hb]; simp [he'])
      · show S.buf.tail.length + (k + 1) = n
        rw [hb] at hl ⊢
        simp at hl ⊢
        omega
      · intro j hj
        by_cases hjt : j = t
        · left
          subst hjt
          constructor
          · show (S.wh.set j 2).getD j 0 = 2
            rw [List.getD_eq_getElem?_getD, List.getElem?_set_self (by rw [ho.lw, h.en]; exact htn)]
            rfl
          · show (S.ps.set j x).getD j z40 = _
            rw [List.getD_eq_getElem?_getD, List.getElem?_set_self (by rw [ho.lp, h.en]; exact htn)]
            exact h.bx (j, x) (by rw [hb]; simp)
        · rcases h.all j hj with ⟨h1, h2⟩ | hm
          · left
            constructor
            · show (S.wh.set t 2).getD j 0 = 2
              rw [List.getD_eq_getElem?_getD, List.getElem?_set_ne (fun e => hjt e.symm), ← List.getD_eq_getElem?_getD]
              exact h1
            · show (S.ps.set t x).getD j z40 = _
              rw [List.getD_eq_getElem?_getD, List.getElem?_set_ne (fun e => hjt e.symm), ← List.getD_eq_getElem?_getD]
              exact h2
          · right
            show j ∈ List.map _ S.buf.tail
            rw [hb] at hm ⊢
            simp only [List.map_cons, List.mem_cons] at hm
            rcases hm with hm | hm
            · exact absurd hm hjt
            · exact hm
    refine ⟨t, x, rest, rfl, hrp, ?_, htn⟩
    have hlw : (S.took t x).wh.length = n := by show (S.wh.set t 2).length = n; rw [List.length_set, ho.lw, h.en]
    constructor
    · intro ha
      rcases rest with _ | ⟨e, rest⟩
      · rw [hb] at hl; simp at hl; omega
      · exfalso
        have he := ho.bw e (by rw [hb]; simp)
        have het : e.1 ≠ t := fun h' => hnd.1 (by rw [← h']; simp)
        refine not_all2 (l := (S.took t x).wh) (j := e.1) ?_ ?_ ha
        · show e.1 < (S.wh.set t 2).length
          rw [List.length_set]
          exact (List.getElem?_eq_some_iff.1 he).1
        · show ¬ (S.wh.set t 2).getD e.1 0 = 2
          rw [List.getD_eq_getElem?_getD, List.getElem?_set_ne (fun h' => het h'.symm), he]
          decide
    · intro hkn
      refine all2_of hlw (fun j hj => ?_)
      rcases hrp.all j hj with ⟨h1, -⟩ | hm
      · exact h1
      · exfalso
        have := hrp.len
        have : (S.took t x).buf.length = 0 := by omega
        rw [List.length_eq_zero_iff.1 this] at hm
        simp at hm
theorem RP.last {S : PS} {n : Nat} {first sum : Int} (h : RP S n first sum n) (ho : S.ps.length = n) : ∀ t, t < n → S.ps.getD t z40 = prt ((t : Nat) + 1) := by
  intro t ht
  rcases h.all t ht with ⟨-, h2⟩ | hm
  · exact h2
  · exfalso
    have := h.len
    rw [List.length_eq_zero_iff.1 (by omega : S.buf.length = 0)] at hm
    simp at hm
end Go.Proofs.Ytcbaiplamaopeaa.PPostShots
