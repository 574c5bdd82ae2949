/- The two books say the same, plainly: whatever is told to both, the program's book and the document's give one answer. -/
import Derived.Test.YtomfknblehkocaaFE
import Derived.Test.YtomfknblehkocaaRI
namespace Go.Proofs.Ytomfknblehkocaa.C
open Go.RowKit Go.Proofs.YtomfknblehkocaaW.PrintWords Go.Proofs.YtomfknblehkocaaW.PrintLast
set_option linter.unusedVariables false
set_option linter.unusedSimpArgs false
theorem cloFrom_append (last port : Int) (t : S109) : ∀ (l : List S109) (i : Nat), cloFrom last port (l ++ [t]) i = if 0 ≤ cloFrom last port l i then cloFrom last port l i else if told last port t = true then ((i + l.length : Nat) : Int) else -1
  | [], i => by
    rw [if_neg (show ¬ (0 : Int) ≤ cloFrom last port [] i by unfold cloFrom; omega)]
    show (if told last port t = true then (i : Int) else -1) = _
    rfl
  | a :: l, i => by
    have ih := cloFrom_append last port t l (i + 1)
    have e1 : cloFrom last port (a :: l ++ [t]) i = if told last port a = true then (i : Int) else cloFrom last port (l ++ [t]) (i + 1) := rfl
    have e2 : cloFrom last port (a :: l) i = if told last port a = true then (i : Int) else cloFrom last port l (i + 1) := rfl
    rw [e1, e2]
    by_cases h : told last port a = true
    · rw [if_pos h, if_pos h, if_pos (by omega)]
    · rw [if_neg h, if_neg h, ih, show i + 1 + l.length = i + (a :: l).length by simp; omega]
theorem clo_add (r : Rk) (t : S109) (p : Int) : (r.add t).clo p = if 0 ≤ r.clo p then r.clo p else if told r.last p t = true then (r.list.length : Int) else -1 := by
  have := cloFrom_append r.last p t r.list 0
  rw [Nat.zero_add] at this
  exact this
theorem clo_neg {r : Rk} {p : Int} (h : ¬ 0 ≤ r.clo p) : r.clo p = -1 := by have := (r.clo_ge p).1; omega
theorem copLoop_succ (r : Rk) (k p : Nat) (m : Int) : copLoop r (k + 1) p m = if (p : Int) = r.back then copLoop r k (p + 1) m else if r.clo p < 0 then -1 else copLoop r k (p + 1) (if m ≤ r.clo p then r.clo p else m) := rfl
theorem copLoop_congr {r r' : Rk} (hb : r.back = r'.back) : ∀ (k p : Nat) (m : Int), (∀ q : Nat, p ≤ q → q < p + k → (q : Int) ≠ r.back → r.clo q = r'.clo q) → copLoop r k p m = copLoop r' k p m
  | 0, _, _, _ => rfl
  | k + 1, p, m, h => by
    rw [copLoop_succ, copLoop_succ]
    by_cases h1 : (p : Int) = r.back
    · rw [if_pos h1, if_pos (show (p : Int) = r'.back from hb ▸ h1)]
      exact copLoop_congr hb k (p + 1) m (fun q h2 h3 => h q (by omega) (by omega))
    · rw [if_neg h1, if_neg (show ¬ (p : Int) = r'.back from hb ▸ h1), h p (Nat.le_refl _) (by omega) h1]
      by_cases h2 : r'.clo p < 0
      · rw [if_pos h2, if_pos h2]
      · rw [if_neg h2, if_neg h2]
        exact copLoop_congr hb k (p + 1) _ (fun q h2 h3 => h q (by omega) (by omega))
theorem copLoop_neg {r : Rk} : ∀ (k p : Nat) (m : Int) (q : Nat), p ≤ q → q < p + k → (q : Int) ≠ r.back → r.clo q < 0 → copLoop r k p m = -1
  | 0, p, m, q, h1, h2, _, _ => by omega
  | k + 1, p, m, q, h1, h2, h3, h4 => by
    unfold copLoop
    by_cases e : p = q
    · subst e
      rw [if_neg h3, if_pos h4]
    · split
      · exact copLoop_neg k (p + 1) m q (by omega) (by omega) h3 h4
      · split
        · rfl
        · exact copLoop_neg k (p + 1) _ q (by omega) (by omega) h3 h4
theorem copLoop_spec {r : Rk} : ∀ (k p : Nat) (m : Int), (∀ q : Nat, p ≤ q → q < p + k → (q : Int) ≠ r.back → 0 ≤ r.clo q) →
    m ≤ copLoop r k p m ∧ (∀ q : Nat, p ≤ q → q < p + k → (q : Int) ≠ r.back → r.clo q ≤ copLoop r k p m) ∧ (copLoop r k p m = m ∨ ∃ q : Nat, p ≤ q ∧ q < p + k ∧ (q : Int) ≠ r.back ∧ copLoop r k p m = r.clo q)
  | 0, p, m, _ => ⟨Int.le_refl _, fun q h1 h2 => by omega, .inl rfl⟩
  | k + 1, p, m, h => by
    have hr : ∀ q : Nat, p + 1 ≤ q → q < p + 1 + k → (q : Int) ≠ r.back → 0 ≤ r.clo q := fun q h2 h3 h4 => h q (by omega) (by omega) h4
    unfold copLoop
    by_cases h1 : (p : Int) = r.back
    · rw [if_pos h1]
      obtain ⟨a, b, c⟩ := copLoop_spec k (p + 1) m hr
      refine ⟨a, fun q h2 h3 h4 => ?_, ?_⟩
      · by_cases e : p = q
        · subst e; exact absurd h1 h4
        · exact b q (by omega) (by omega) h4
      · rcases c with c | ⟨q, h2, h3, h4, h5⟩
        · exact .inl c
        · exact .inr ⟨q, by omega, by omega, h4, h5⟩
    · have h0 := h p (Nat.le_refl _) (by omega) h1
      rw [if_neg h1, if_neg (by omega)]
      obtain ⟨z, hz⟩ : ∃ z, z = if m ≤ r.clo p then r.clo p else m := ⟨_, rfl⟩
      have hz1 : m ≤ z ∧ r.clo p ≤ z ∧ (z = m ∨ z = r.clo p) := by
        by_cases e : m ≤ r.clo p
        · rw [if_pos e] at hz; omega
        · rw [if_neg e] at hz; omega
      rw [← hz]
      clear hz
      obtain ⟨a, b, c⟩ := copLoop_spec k (p + 1) z hr
      refine ⟨by omega, fun q h2 h3 h4 => ?_, ?_⟩
      · by_cases e : p = q
        · subst e; omega
        · exact b q (by omega) (by omega) h4
      · rcases c with c | ⟨q, h2, h3, h4, h5⟩
        · rcases hz1.2.2 with e | e
          · exact .inl (c.trans e)
          · exact .inr ⟨p, Nat.le_refl _, by omega, h1, c.trans e⟩
        · exact .inr ⟨q, by omega, by omega, h4, h5⟩
def logSo (r : Rk) (p : Nat) : List S45 := recF p r.list (r.cop + 1).toNat (if 0 ≤ r.clo p then (r.clo p).toNat else r.list.length) ++ if r.mode = 3 ∧ 0 ≤ r.clo p then (r.list.getD (r.clo p).toNat z109).f3 else []
theorem logSo_log {r : Rk} {p : Nat} (h : 0 ≤ r.clo p) : logSo r p = r.log p := by
  unfold logSo Rk.log
  rw [if_pos h]
  congr 1
  by_cases hm : r.mode = 3
  · rw [if_pos ⟨hm, h⟩, if_pos hm]
  · rw [if_neg (fun e => hm e.1), if_neg hm]
/-- What the two books have in common. -/
structure Rel0 (b : Bk) (r : Rk) (mode back : Int) (n : Nat) : Prop where
  bm : b.mode = mode
  bb : b.back = back
  bn : b.ports.length = n
  bl : b.logs.length = n
  rm : r.mode = mode
  rn : r.ports = n
  rb : r.back = back
  now : r.last = b.now
  n0 : 0 ≤ b.now
  cl : ∀ p : Nat, p < n → b.ports.getD p 0 = if 0 ≤ r.clo p then 1 else 0
  kn : ∀ p : Int, 0 ≤ r.clo p → 0 ≤ p ∧ p < n
  cp : b.copied = decide (0 ≤ r.cop)
  al : mode = 1 → b.copied = b.shutB back
  gv : b.given = r.handed
  gc : b.given = true → b.copied = true ∧ ∀ p : Nat, p < n → 0 ≤ r.clo p
  lg : b.given = false → ∀ p : Nat, p < n → b.logs.getD p [] = if b.copied = true then logSo r p else []
  sp : b.given = false → b.copied = true → b.st = r.st ∧ b.pend = r.pd
def Rel (b : Bk) (r : Rk) (mode back : Int) (n : Nat) : Prop := Rel0 b r mode back n ∧ (r.list.length = 0 ↔ b.now = 0)
theorem clo_list {r : Rk} (h : r.list = []) (p : Int) : r.clo p = -1 := by unfold Rk.clo; rw [h]; rfl
theorem cop_list {r : Rk} (h : r.list = []) : r.cop = -1 := by unfold Rk.cop; rw [if_pos (by rw [h]; rfl)]
/-- Both have seen no marker of the snapshot id. -/
theorem Rel0.fresh {mode back : Int} {n : Nat} (b : Bk) (r : Rk) (id : Int) (h1 : b.mode = mode) (h2 : b.back = back) (h3 : b.ports.length = n) (h4 : r.mode = mode) (h5 : r.ports = n) (h6 : r.back = back) (hid : 0 ≤ id) (hn : 1 ≤ n) (hlo : -1 ≤ back) (hbn : ¬ (back = 0 ∧ n = 1)) : Rel0 (b.freshed id) (r.freshed id) mode back n := by
  have hc : ∀ p : Int, (r.freshed id).clo p = -1 := fun p => clo_list rfl p
  have hcop : (r.freshed id).cop = -1 := cop_list rfl
  have hp : ∀ p : Nat, (b.freshed id).ports.getD p 0 = 0 := fun p => by
    unfold Bk.freshed
    rw [List.getD_eq_getElem?_getD, List.getElem?_replicate]
    split <;> rfl
  have hlen : (b.freshed id).ports.length = n := by unfold Bk.freshed; simp only [List.length_replicate]; exact h3
  refine ⟨h1, h2, hlen, by unfold Bk.freshed; simp only [List.length_replicate]; exact h3, h4, h5, h6, rfl, hid, fun p hp' => ?_, fun p hp' => ?_, ?_, fun hm => ?_, rfl, fun h => (by cases h), fun _ p _ => ?_, fun _ h => (by cases h)⟩
  · rw [hp, hc, if_neg (by omega)]
  · rw [hc] at hp'; omega
  · rw [hcop]; rfl
  · by_cases h2 : back = 0
    · exact (Bk.shutB_false 1 (by rw [hlen]; omega) (hp 1) (by omega)).symm
    · exact (Bk.shutB_false 0 (by rw [hlen]; omega) (hp 0) (by omega)).symm
  · show (List.replicate b.ports.length ([] : List S45)).getD p [] = _
    rw [List.getD_eq_getElem?_getD, List.getElem?_replicate]
    split <;> rfl
theorem Rel.new {mode back : Int} {n : Nat} (hn : 1 ≤ n) (hlo : -1 ≤ back) (hbn : ¬ (back = 0 ∧ n = 1)) : Rel (Bk.new mode n back) (Rk.new mode n back) mode back n := by
  have h := Rel0.fresh (Bk.new mode n back) (Rk.new mode n back) 0 rfl rfl (by unfold Bk.new; simp) rfl rfl rfl (Int.le_refl 0) hn hlo hbn
  have e1 : (Bk.new mode n back).freshed 0 = Bk.new mode n back := by unfold Bk.freshed Bk.new; simp
  have e2 : (Rk.new mode n back).freshed 0 = Rk.new mode n back := rfl
  rw [e1, e2] at h
  exact ⟨h, ⟨fun _ => rfl, fun _ => rfl⟩⟩
section
variable {b : Bk} {r : Rk} {mode back : Int} {n : Nat}
theorem Rel0.knows (h : Rel0 b r mode back n) (port : Int) : b.knows port = !decide (port < 0 ∨ r.ports ≤ port) := by
  unfold Bk.knows
  rw [h.bn, h.rn]
  by_cases h1 : 0 ≤ port
  · by_cases h2 : port < n
    · rw [decide_eq_true h1, decide_eq_true h2, decide_eq_false (by omega)]; rfl
    · rw [decide_eq_false h2, decide_eq_true (by omega : port < 0 ∨ (n : Int) ≤ port)]; simp
  · rw [decide_eq_false h1, decide_eq_true (by omega : port < 0 ∨ (n : Int) ≤ port)]; simp
theorem list_pos {p : Int} (h : 0 ≤ r.clo p) : 0 < r.list.length := by have := (r.clo_ge p).2; omega
theorem Rel.held (h : Rel b r mode back n) (port : Int) : r.held port = b.held port := by
  obtain ⟨h, hnil⟩ := h
  unfold Rk.held Bk.held
  rw [h.rm, h.bm, h.cp]
  by_cases hc : 0 ≤ r.clo port
  · obtain ⟨h1, h2⟩ := h.kn port hc
    have hp := list_pos hc
    have hnow : 0 < b.now := by have := h.n0; have := hnil.2; omega
    have hk : b.knows port = true := by rw [h.knows, h.rn, decide_eq_false (by omega)]; rfl
    have hpt := h.cl port.toNat (by omega)
    rw [show ((port.toNat : Nat) : Int) = port by omega, if_pos hc] at hpt
    rw [hk, hpt, decide_eq_true hc, decide_eq_true hnow]
    by_cases h3 : r.cop < 0
    · rw [decide_eq_true h3, decide_eq_false (by omega)]; simp
    · rw [decide_eq_false h3, decide_eq_true (by omega : 0 ≤ r.cop)]; simp
  · rw [decide_eq_false hc, Bool.and_false]
    by_cases hk : b.knows port = true
    · obtain ⟨p, rfl, hp⟩ := Bk.knows_nat hk
      have hpt := h.cl p (by rw [← h.bn]; exact hp)
      rw [if_neg hc] at hpt
      rw [Int.toNat_natCast, hpt]
      simp
    · simp [hk]
theorem Rel.tookE (h : Rel b r mode back n) (port : Int) : r.tookE port = b.tookE port := by
  unfold Rk.tookE Bk.tookE
  rw [h.held, h.1.knows]
  by_cases h1 : port < 0 ∨ r.ports ≤ port
  · rw [if_pos h1, decide_eq_true h1]; rfl
  · rw [if_neg h1, decide_eq_false h1]; rfl
theorem Rel.markE (h : Rel b r mode back n) (port id : Int) : r.markE port id = b.markE port id := by
  unfold Rk.markE Bk.markE
  rw [h.held, h.1.knows]
  by_cases h1 : port < 0 ∨ r.ports ≤ port
  · rw [if_pos h1, decide_eq_true h1]; rfl
  · rw [if_neg h1, decide_eq_false h1]; rfl
theorem take_append_le {α : Type} (l : List α) (t : α) (k : Nat) (h : k ≤ l.length) : (l ++ [t]).take k = l.take k := List.take_append_of_le_length h
theorem recF_add (port : Int) (l : List S109) (t : S109) (a k : Nat) (h : k ≤ l.length) : recF port (l ++ [t]) a k = recF port l a k := by
  unfold recF
  rw [take_append_le _ _ _ h]
theorem recF_more (port : Int) (l : List S109) (t : S109) (a : Nat) (h : a ≤ l.length) : recF port (l ++ [t]) a (l ++ [t]).length = recF port l a l.length ++ if isRec port t = true then [t.f2] else [] := by
  rw [List.length_append]
  have := recF_step port (l ++ [t]) a l.length t (by simp) h
  rw [show (l ++ [t]).getD l.length t = t by rw [List.getD_eq_getElem?_getD, List.getElem?_append_right (Nat.le_refl _)]; simp] at this
  rw [show l.length + [t].length = l.length + 1 from rfl, this, recF_add _ _ _ _ _ (Nat.le_refl _)]
theorem getD_add (l : List S109) (t : S109) (k : Nat) (h : k < l.length) : (l ++ [t]).getD k z109 = l.getD k z109 := by
  rw [List.getD_eq_getElem?_getD, List.getElem?_append_left h, List.getD_eq_getElem?_getD]
theorem getD_last (l : List S109) (t : S109) : (l ++ [t]).getD l.length z109 = t := by
  rw [List.getD_eq_getElem?_getD, List.getElem?_append_right (Nat.le_refl _)]; simp
/-- The copy stays where it was made. -/
theorem cop_stays {t : S109} (hr : 1 ≤ r.ports) (hc : 0 ≤ r.cop) : (r.add t).cop = r.cop := by
  have hl : 0 < r.list.length := by have := cop_lt r hc; omega
  unfold Rk.cop
  have e1 : ¬ (r.add t).list.length = 0 := by rw [add_len]; omega
  rw [if_neg e1, if_neg (by omega : ¬ r.list.length = 0)]
  show (if r.mode ≠ 1 then (0 : Int) else copLoop (r.add t) r.ports.toNat 0 0) = _
  by_cases hm : r.mode ≠ 1
  · rw [if_pos hm, if_pos hm]
  · rw [if_neg hm, if_neg hm]
    refine copLoop_congr (r := r.add t) (r' := r) rfl _ _ _ (fun q h1 h2 h3 => ?_)
    rw [clo_add]
    by_cases h4 : 0 ≤ r.clo q
    · rw [if_pos h4]
    · have : r.cop = -1 := by
        unfold Rk.cop
        rw [if_neg (by omega : ¬ r.list.length = 0), if_neg hm]
        exact copLoop_neg _ 0 _ q (Nat.zero_le _) h2 h3 (by omega)
      omega
theorem cop_same {t : S109} (hl : 0 < r.list.length) (hc : ∀ p : Int, (r.add t).clo p = r.clo p) : (r.add t).cop = r.cop := by
  unfold Rk.cop
  have e1 : ¬ (r.add t).list.length = 0 := by rw [add_len]; omega
  rw [if_neg e1, if_neg (by omega : ¬ r.list.length = 0)]
  show (if r.mode ≠ 1 then (0 : Int) else copLoop (r.add t) r.ports.toNat 0 0) = _
  split
  · rfl
  · exact copLoop_congr (r := r.add t) (r' := r) rfl _ _ _ (fun q _ _ _ => hc q)
theorem told_rec (last p port : Int) (x : S45) : told last p (toldR port x) = false := by
  unfold told toldR
  rw [show decide ((0 : Int) < 0) = false from rfl]
  simp
theorem Rel.took (h : Rel b r mode back n) (port : Int) (x : S45) : Rel (b.took port x) (r.took port x) mode back n := by
  have hE := h.tookE port
  by_cases h0 : b.tookE port = 0
  rotate_left
  · rw [show b.took port x = b by unfold Bk.took; rw [beq_false_of_ne h0]; rfl, show r.took port x = r by unfold Rk.took; rw [if_neg (by rw [hE]; exact fun e => h0 e.1)]]
    exact h
  obtain ⟨h, hnil⟩ := h
  by_cases hl : 0 < r.list.length
  rotate_left
  · have hl' : r.list = [] := List.eq_nil_of_length_eq_zero (by omega)
    have hc : b.copied = false := by rw [h.cp, cop_list hl']; rfl
    rw [show b.took port x = b by unfold Bk.took; rw [hc]; simp, show r.took port x = r by unfold Rk.took; rw [if_neg (by omega)]]
    exact ⟨h, hnil⟩
  rw [show r.took port x = r.add (toldR port x) by unfold Rk.took; rw [if_pos ⟨hE.trans h0, hl⟩]]
  have hclo : ∀ p : Int, (r.add (toldR port x)).clo p = r.clo p := fun p => by
    rw [clo_add, told_rec]
    by_cases h1 : 0 ≤ r.clo p
    · rw [if_pos h1]
    · rw [if_neg h1, clo_neg h1]; rfl
  have hcop : (r.add (toldR port x)).cop = r.cop := cop_same hl hclo
  have hk : b.knows port = true := by
    unfold Bk.tookE at h0
    split at h0
    · omega
    · rename_i h1; simpa using h1
  obtain ⟨q, rfl, hq⟩ := Bk.knows_nat hk
  have hqn : q < n := by rw [← h.bn]; exact hq
  have hcq := h.cl q hqn
  have hlog : ∀ p : Nat, 0 ≤ r.cop → logSo (r.add (toldR q x)) p = logSo r p ++ if p = q ∧ ¬ 0 ≤ r.clo p then [x] else [] := fun p hcp => by
    have ha : (r.cop + 1).toNat ≤ r.list.length := by have := cop_lt r hcp; omega
    unfold logSo
    rw [hclo, hcop]
    by_cases h1 : 0 ≤ r.clo p
    · have h2 := (r.clo_ge p).2
      rw [if_pos h1, if_pos h1, if_neg (show ¬ (p = q ∧ ¬ 0 ≤ r.clo p) from fun e => e.2 h1), List.append_nil]
      show recF p (r.list ++ [toldR q x]) _ _ ++ (if r.mode = 3 ∧ _ then ((r.list ++ [toldR q x]).getD _ z109).f3 else []) = _
      rw [recF_add _ _ _ _ _ (by omega), getD_add _ _ _ (by omega)]
      rfl
    · rw [if_neg h1, if_neg h1, if_neg (fun e => h1 e.2), if_neg (fun e => h1 e.2), List.append_nil, List.append_nil]
      show recF p (r.list ++ [toldR q x]) _ (r.list ++ [toldR q x]).length = _
      rw [recF_more _ _ _ _ ha]
      congr 1
      unfold isRec toldR
      by_cases h2 : p = q
      · subst h2; simp [h1]
      · simp only []
        rw [if_neg (by simp; omega), if_neg (fun e => h2 e.1)]
  have hst : 0 ≤ r.cop → (r.add (toldR q x)).st = r.st ∧ (r.add (toldR q x)).pd = r.pd := fun hcp => by
    have := cop_lt r hcp
    unfold Rk.st Rk.pd
    rw [hcop]
    show ((r.list ++ [toldR q x]).getD _ z109).f4 = _ ∧ ((r.list ++ [toldR q x]).getD _ z109).f5 = _
    rw [getD_add _ _ _ (by omega)]
    exact ⟨rfl, rfl⟩
  have hnil' : ∀ b' : Bk, b'.now = b.now → ((r.add (toldR q x)).list.length = 0 ↔ b'.now = 0) := fun b' e => by
    rw [add_len, e]
    exact ⟨fun e => by omega, fun e => by have := hnil.2 e; omega⟩
  by_cases hlg : b.copied = true ∧ b.ports.getD q 0 = 0
  · have hb : b.took q x = b.logged q [x] := by unfold Bk.took; rw [h0, hlg.1, Int.toNat_natCast, hlg.2]; rfl
    rw [hb]
    have hcp : 0 ≤ r.cop := by have := h.cp; rw [hlg.1] at this; exact of_decide_eq_true this.symm
    have hop : ¬ 0 ≤ r.clo q := by
      intro e
      rw [if_pos e, hlg.2] at hcq
      omega
    refine ⟨⟨h.bm, h.bb, h.bn, by show (b.logs.set _ _).length = n; rw [List.length_set]; exact h.bl, h.rm, h.rn, h.rb, h.now, h.n0, fun p hp => by rw [hclo]; exact h.cl p hp, fun p hp => h.kn p (by rw [← hclo]; exact hp), by rw [hcop]; exact h.cp, h.al, h.gv, fun e => ⟨(h.gc e).1, fun p hp => by rw [hclo]; exact (h.gc e).2 p hp⟩, fun e p hp => ?_, fun e1 e2 => ?_⟩, hnil' _ rfl⟩
    · show (b.logs.set q (b.logs.getD q [] ++ [x])).getD p [] = if b.copied = true then _ else []
      rw [if_pos hlg.1, hlog p hcp]
      have h1 := h.lg e
      by_cases h2 : p = q
      · subst h2
        rw [getD_set_eq _ _ _ _ (by rw [h.bl]; exact hp), if_pos ⟨rfl, hop⟩, h1 p hp, if_pos hlg.1]
      · rw [getD_set_ne _ _ _ _ _ h2, if_neg (fun e => h2 e.1), List.append_nil, h1 p hp, if_pos hlg.1]
    · obtain ⟨e3, e4⟩ := hst hcp
      rw [e3, e4]
      exact h.sp e1 e2
  · have hb : b.took q x = b := by
      unfold Bk.took
      rw [if_neg]
      simp only [Bool.and_eq_true, beq_iff_eq, Int.toNat_natCast]
      exact fun e => hlg ⟨e.1.2, e.2⟩
    rw [hb]
    refine ⟨⟨h.bm, h.bb, h.bn, h.bl, h.rm, h.rn, h.rb, h.now, h.n0, fun p hp => by rw [hclo]; exact h.cl p hp, fun p hp => h.kn p (by rw [← hclo]; exact hp), by rw [hcop]; exact h.cp, h.al, h.gv, fun e => ⟨(h.gc e).1, fun p hp => by rw [hclo]; exact (h.gc e).2 p hp⟩, fun e p hp => ?_, fun e1 e2 => ?_⟩, hnil' _ rfl⟩
    · rw [h.lg e p hp]
      by_cases hc : b.copied = true
      · rw [if_pos hc, if_pos hc]
        have hcp : 0 ≤ r.cop := by have := h.cp; rw [hc] at this; exact of_decide_eq_true this.symm
        rw [hlog p hcp]
        by_cases h2 : p = q
        · subst h2
          have : 0 ≤ r.clo p := by
            by_cases h3 : 0 ≤ r.clo p
            · exact h3
            · rw [if_neg h3] at hcq
              exact absurd ⟨hc, hcq⟩ hlg
          rw [if_neg (fun e => e.2 this), List.append_nil]
        · rw [if_neg (fun e => h2 e.1), List.append_nil]
      · rw [if_neg hc, if_neg hc]
    · have hcp : 0 ≤ r.cop := by have := h.cp; rw [e2] at this; exact of_decide_eq_true this.symm
      obtain ⟨e3, e4⟩ := hst hcp
      rw [e3, e4]
      exact h.sp e1 e2
/-- What close does, cell by cell. -/
structure CloseIs (b b' : Bk) (p : Nat) (x : List S45) (s : S34) (y : List S45) : Prop where
  mode : b'.mode = b.mode
  back : b'.back = b.back
  now : b'.now = b.now
  given : b'.given = b.given
  ports : b'.ports = b.ports.set p 1
  logs : b'.logs = if b.mode = 3 then b.logs.set p (b.logs.getD p [] ++ x) else b.logs
  copied : b'.copied = (b.copied || b.mode != 1 || b'.shutB b.back)
  old : b.copied = true → b'.st = b.st ∧ b'.pend = b.pend
  new : b.copied = false → b'.copied = true → b'.st = s ∧ b'.pend = y
theorem close_is (b : Bk) (p : Nat) (x : List S45) (s : S34) (y : List S45) : CloseIs b (b.close p x s y) p x s y := by
  have hsh : ∀ b' : Bk, b'.ports = b.ports.set p 1 → b'.shutB b.back = (b.shutP p).shutB b.back := fun b' e => by unfold Bk.shutB; rw [e]; rfl
  by_cases hm : b.mode = 1
  · rcases hc : b.copied with _ | _
    · rcases hs : (b.shutP p).shutB b.back with _ | _
      · have e : b.close p x s y = b.shutP p := by unfold Bk.close; simp [hm, hc, hs]
        rw [e]
        exact ⟨rfl, rfl, rfl, rfl, rfl, by rw [hm]; rfl, by rw [hs]; show b.copied = _; rw [hc, hm]; rfl, fun h => (by rw [hc] at h; cases h), fun _ h => (by rw [show (b.shutP p).copied = b.copied from rfl, hc] at h; cases h)⟩
      · have e : b.close p x s y = (b.shutP p).taken s y := by unfold Bk.close; simp [hm, hc, hs]
        rw [e]
        exact ⟨rfl, rfl, rfl, rfl, rfl, by rw [hm]; rfl, by rw [hsh ((b.shutP p).taken s y) rfl, hs]; simp [Bk.taken], fun h => (by rw [hc] at h; cases h), fun _ _ => ⟨rfl, rfl⟩⟩
    · have e : b.close p x s y = b.shutP p := by unfold Bk.close; simp [hm, hc]
      rw [e]
      exact ⟨rfl, rfl, rfl, rfl, rfl, by rw [hm]; rfl, by show b.copied = _; rw [hc]; rfl, fun _ => ⟨rfl, rfl⟩, fun h => (by rw [hc] at h; cases h)⟩
  · have hm' : (b.mode != 1) = true := by simp [hm]
    rcases hc : b.copied with _ | _
    · by_cases h3 : b.mode = 3
      · have e : b.close p x s y = ((b.taken s y).logged p x).shutP p := by unfold Bk.close; simp [h3, hc]
        rw [e]
        exact ⟨rfl, rfl, rfl, rfl, rfl, by rw [if_pos h3]; rfl, by rw [hm']; simp [Bk.shutP, Bk.logged, Bk.taken], fun h => (by rw [hc] at h; cases h), fun _ _ => ⟨rfl, rfl⟩⟩
      · have e : b.close p x s y = (b.taken s y).shutP p := by unfold Bk.close; simp [hm, h3, hc]
        rw [e]
        exact ⟨rfl, rfl, rfl, rfl, rfl, by rw [if_neg h3]; rfl, by rw [hm']; simp [Bk.shutP, Bk.taken], fun h => (by rw [hc] at h; cases h), fun _ _ => ⟨rfl, rfl⟩⟩
    · by_cases h3 : b.mode = 3
      · have e : b.close p x s y = (b.logged p x).shutP p := by unfold Bk.close; simp [h3, hc]
        rw [e]
        exact ⟨rfl, rfl, rfl, rfl, rfl, by rw [if_pos h3]; rfl, by show b.copied = _; rw [hc]; rfl, fun _ => ⟨rfl, rfl⟩, fun h => (by rw [hc] at h; cases h)⟩
      · have e : b.close p x s y = b.shutP p := by unfold Bk.close; simp [hm, h3, hc]
        rw [e]
        exact ⟨rfl, rfl, rfl, rfl, rfl, by rw [if_neg h3]; rfl, by show b.copied = _; rw [hc]; rfl, fun _ => ⟨rfl, rfl⟩, fun h => (by rw [hc] at h; cases h)⟩
theorem shutB_iff (h : Rel0 b r mode back n) : b.shutB back = true ↔ ∀ p : Nat, p < n → (p : Int) ≠ back → 0 ≤ r.clo p := by
  constructor
  · intro hs p hp hb
    by_cases h1 : 0 ≤ r.clo p
    · exact h1
    · have := h.cl p hp
      rw [if_neg h1] at this
      rw [Bk.shutB_false p (by rw [h.bn]; exact hp) this hb] at hs
      cases hs
  · intro hs
    refine Bk.shutB_true (fun i hi h0 => ?_)
    by_cases hb : (i : Int) = back
    · exact hb
    · rw [h.bn] at hi
      have := h.cl i hi
      rw [if_pos (hs i hi hb)] at this
      omega
theorem told_mark (port id p : Int) (x : List S45) (s : S34) (y : List S45) (hid : 1 ≤ id) : told id p (toldM port id x s y) = decide (p = port) := by
  unfold told toldM
  simp only [beq_self_eq_true, decide_eq_true (by omega : 0 < id), Bool.true_and]
  by_cases h : p = port
  · subst h; simp
  · rw [decide_eq_false h]; exact beq_false_of_ne (fun e => h e.symm)
/-- A marker at an open port, told to both. -/
theorem Rel0.close (h : Rel0 b r mode back n) {q : Nat} (hq : q < n) (hop : ¬ 0 ≤ r.clo q) (hid : 1 ≤ r.last) (hn4 : 1 ≤ n) (x : List S45) (s : S34) (y : List S45) : Rel0 (b.close q x s y) (r.add (toldM q r.last x s y)) mode back n := by
  obtain ⟨t, ht⟩ : ∃ t, t = toldM q r.last x s y := ⟨_, rfl⟩
  have hI := close_is b q x s y
  generalize b.close q x s y = b' at *
  have htold : ∀ p : Int, told r.last p t = decide (p = (q : Int)) := fun p => by rw [ht]; exact told_mark _ _ _ _ _ _ hid
  rw [← ht]
  have hclo : ∀ p : Int, (r.add t).clo p = if 0 ≤ r.clo p then r.clo p else if p = (q : Int) then (r.list.length : Int) else -1 := fun p => by
    rw [clo_add, htold]
    by_cases h1 : p = (q : Int)
    · rw [decide_eq_true h1, if_pos h1]; rfl
    · rw [decide_eq_false h1, if_neg h1]; rfl
  have hnon : ∀ p : Int, p ≠ q → (r.add t).clo p = r.clo p := fun p hp => by
    rw [hclo]
    by_cases h1 : 0 ≤ r.clo p
    · rw [if_pos h1]
    · rw [if_neg h1, if_neg hp, clo_neg h1]
  have hcq : (r.add t).clo q = r.list.length := by rw [hclo, if_neg hop, if_pos rfl]
  have hgiv : b.given = false := by
    rcases hg : b.given with _ | _
    · rfl
    · exact absurd ((h.gc hg).2 q hq) hop
  have hlen : (r.add t).list.length = r.list.length + 1 := add_len _ _
  -- the copy
  have hcop : (0 ≤ r.cop ∧ (r.add t).cop = r.cop) ∨ (¬ 0 ≤ r.cop ∧ ((r.add t).cop = -1 ∨ (r.add t).cop = r.list.length)) := by
    by_cases hc : 0 ≤ r.cop
    · exact .inl ⟨hc, cop_stays (by rw [h.rn]; omega) hc⟩
    · refine .inr ⟨hc, ?_⟩
      have e1 : (r.add t).cop = if r.mode ≠ 1 then (0 : Int) else copLoop (r.add t) r.ports.toNat 0 0 := by
        unfold Rk.cop
        rw [if_neg (by rw [hlen]; omega)]
        rfl
      rw [e1]
      by_cases hm : r.mode ≠ 1
      · rw [if_pos hm]
        have : r.list.length = 0 := by
          by_cases h0 : r.list.length = 0
          · exact h0
          · exact absurd (by unfold Rk.cop; rw [if_neg h0, if_pos hm]; exact Int.le_refl _) hc
        rw [this]
        exact .inr rfl
      · rw [if_neg hm]
        by_cases hall : ∀ p : Nat, p < n → (p : Int) ≠ back → 0 ≤ (r.add t).clo p
        · right
          have hb0 : (q : Int) ≠ back := by
            intro e
            refine hc ?_
            have hz : 0 < r.list.length := by
              by_cases h0 : r.list.length = 0
              · have hl0 := List.eq_nil_of_length_eq_zero h0
                exfalso
                by_cases h1 : q = 0
                · by_cases h2 : n = 1
                  · have hs := h.al (by rw [← h.rm]; omega)
                    have hs2 : b.shutB back = true := (shutB_iff h).2 (fun p hp hpb => by omega)
                    rw [hs2, h.cp, cop_list hl0] at hs
                    cases hs
                  · have := hall 1 (by omega) (by omega)
                    rw [hnon _ (by omega), clo_list hl0] at this
                    omega
                · have := hall 0 (by omega) (by omega)
                  rw [hnon _ (by omega), clo_list hl0] at this
                  omega
              · omega
            have hs := h.al (by rw [← h.rm]; omega)
            have hs2 : b.shutB back = true := (shutB_iff h).2 (fun p hp hpb => by
              have := hall p hp hpb
              rw [hnon _ (by rw [e]; exact hpb)] at this
              exact this)
            rw [hs2, h.cp] at hs
            exact of_decide_eq_true hs
          obtain ⟨_, hle, hor⟩ := copLoop_spec (r := r.add t) r.ports.toNat 0 0 (fun p _ hp hpb => hall p (by rw [h.rn] at hp; omega) (by rw [← h.rb]; exact hpb))
          have h1 := hle q (Nat.zero_le _) (by rw [h.rn]; omega) (by show (q : Int) ≠ r.back; rw [h.rb]; exact hb0)
          rw [hcq] at h1
          rcases hor with e | ⟨p, _, _, _, e⟩
          · omega
          · have := ((r.add t).clo_ge p).2
            rw [hlen] at this
            omega
        · left
          obtain ⟨p, hp⟩ := Classical.not_forall.1 hall
          obtain ⟨hp1, hp2⟩ := Classical.not_imp.1 hp
          obtain ⟨hp3, hp4⟩ := Classical.not_imp.1 hp2
          exact copLoop_neg _ 0 _ p (Nat.zero_le _) (by rw [h.rn]; omega) (by show (p : Int) ≠ r.back; rw [h.rb]; exact hp3) (by omega)
  have hpt : ∀ p : Nat, p < n → b'.ports.getD p 0 = if 0 ≤ (r.add t).clo p then 1 else 0 := fun p hp => by
    rw [hI.ports]
    by_cases h1 : p = q
    · subst h1
      rw [getD_set_eq _ _ _ _ (by rw [h.bn]; exact hp), hcq, if_pos (by omega)]
    · rw [getD_set_ne _ _ _ _ _ h1, hnon _ (by omega)]
      exact h.cl p hp
  have hbn : b'.ports.length = n := by rw [hI.ports, List.length_set]; exact h.bn
  have hshut : b'.shutB back = true ↔ ∀ p : Nat, p < n → (p : Int) ≠ back → 0 ≤ (r.add t).clo p := by
    constructor
    · intro hs p hp hb
      by_cases h1 : 0 ≤ (r.add t).clo p
      · exact h1
      · have := hpt p hp
        rw [if_neg h1] at this
        rw [Bk.shutB_false p (by rw [hbn]; exact hp) this hb] at hs
        cases hs
    · intro hs
      refine Bk.shutB_true (fun i hi h0 => ?_)
      by_cases hb : (i : Int) = back
      · exact hb
      · rw [hbn] at hi
        have := hpt i hi
        rw [if_pos (hs i hi hb)] at this
        omega
  have hcopm1 : mode = 1 → ((0 ≤ (r.add t).cop) ↔ ∀ p : Nat, p < n → (p : Int) ≠ back → 0 ≤ (r.add t).clo p) := fun hm => by
    have e1 : (r.add t).cop = copLoop (r.add t) r.ports.toNat 0 0 := by
      unfold Rk.cop
      rw [if_neg (by rw [hlen]; omega), if_neg (by show ¬ r.mode ≠ 1; rw [h.rm]; omega)]
      rfl
    rw [e1]
    constructor
    · intro h0 p hp hb
      by_cases h1 : 0 ≤ (r.add t).clo p
      · exact h1
      · rw [copLoop_neg _ 0 _ p (Nat.zero_le _) (by rw [h.rn]; omega) (by show (p : Int) ≠ r.back; rw [h.rb]; exact hb) (by omega)] at h0
        omega
    · intro hall
      exact (copLoop_spec (r := r.add t) r.ports.toNat 0 0 (fun p _ hp hpb => hall p (by rw [h.rn] at hp; omega) (by rw [← h.rb]; exact hpb))).1
  have hcp : b'.copied = decide (0 ≤ (r.add t).cop) := by
    rw [hI.copied]
    rcases hcop with ⟨hc, e⟩ | ⟨hc, e⟩
    · rw [h.cp, decide_eq_true hc, e, decide_eq_true hc]; rfl
    · rw [h.cp, decide_eq_false hc, h.bb]
      by_cases hm : mode = 1
      · rw [show (b.mode != 1) = false by rw [h.bm, hm]; rfl]
        rcases hs : b'.shutB back with _ | _
        · have : ¬ 0 ≤ (r.add t).cop := fun h0 => by rw [hshut.2 ((hcopm1 hm).1 h0)] at hs; cases hs
          rw [decide_eq_false this]; rfl
        · rw [decide_eq_true ((hcopm1 hm).2 (hshut.1 hs))]; rfl
      · rw [show (b.mode != 1) = true by rw [h.bm]; simp [hm]]
        have : (r.add t).cop = 0 := by
          unfold Rk.cop
          rw [if_neg (by rw [hlen]; omega), if_pos (by show r.mode ≠ 1; rw [h.rm]; exact hm)]
        rw [this]; rfl
  have hlog : ∀ p : Nat, p < n → b'.copied = true → logSo (r.add t) p = (if b.copied = true then logSo r p else []) ++ if mode = 3 ∧ p = q then x else [] := fun p hp hc' => by
    have hc1 : 0 ≤ (r.add t).cop := by rw [hcp] at hc'; exact of_decide_eq_true hc'
    have hext : ∀ k, k ≤ r.list.length → recF p (r.list ++ [t]) (r.cop + 1).toNat k = recF p r.list (r.cop + 1).toNat k := fun k hk => recF_add _ _ _ _ _ hk
    have hah : ∀ k : Nat, k < r.list.length → ((r.list ++ [t]).getD k z109).f3 = (r.list.getD k z109).f3 := fun k hk => by rw [getD_add _ _ _ hk]
    have hlt : ((r.list ++ [t]).getD r.list.length z109).f3 = x := by rw [getD_last, ht]; rfl
    have hS : ∀ (m : Int) (r' : Rk), r'.mode = m → logSo r' p = recF p r'.list (r'.cop + 1).toNat (if 0 ≤ r'.clo p then (r'.clo p).toNat else r'.list.length) ++ if m = 3 ∧ 0 ≤ r'.clo p then (r'.list.getD (r'.clo p).toNat z109).f3 else [] := fun m r' e => by subst e; rfl
    rw [hS mode (r.add t) h.rm, hS mode r h.rm]
    show recF p (r.list ++ [t]) _ (if _ then _ else (r.list ++ [t]).length) ++ (if mode = 3 ∧ _ then ((r.list ++ [t]).getD _ z109).f3 else []) = _
    rcases hcop with ⟨hc, e⟩ | ⟨hc, e⟩
    · rw [if_pos (show b.copied = true by rw [h.cp]; exact decide_eq_true hc), e]
      by_cases h1 : p = q
      · subst h1
        rw [hcq, if_pos (by omega), if_neg hop, Int.toNat_natCast, hext _ (Nat.le_refl _), hlt]
        by_cases hm : mode = 3
        · rw [if_pos ⟨hm, by omega⟩, if_neg (fun e => hop e.2), if_pos ⟨hm, rfl⟩, List.append_nil]
        · rw [if_neg (fun e => hm e.1), if_neg (fun e => hm e.1), if_neg (fun e => hm e.1)]
          simp
      · rw [hnon _ (by omega), if_neg (show ¬ (mode = 3 ∧ p = q) from fun e => h1 e.2), List.append_nil]
        by_cases h2 : 0 ≤ r.clo p
        · have h3 := (r.clo_ge p).2
          rw [if_pos h2, if_pos h2, hext _ (by omega), hah _ (by omega)]
        · rw [if_neg h2, if_neg h2, if_neg (show ¬ (mode = 3 ∧ 0 ≤ r.clo p) from fun e => h2 e.2), if_neg (show ¬ (mode = 3 ∧ 0 ≤ r.clo p) from fun e => h2 e.2)]
          show recF p (r.list ++ [t]) _ (r.list ++ [t]).length ++ [] = _
          rw [recF_more _ _ _ _ (by have := cop_lt r hc; omega), if_neg (by rw [ht]; unfold isRec toldM; simp; omega), List.append_nil]
    · rw [if_neg (show ¬ b.copied = true by rw [h.cp]; simp; omega), List.nil_append]
      have e' : (r.add t).cop = r.list.length := by rcases e with e | e <;> omega
      have hkz : ∀ z : Int, z < ((r.list.length + 1 : Nat) : Int) → z.toNat ≤ r.list.length + 1 := fun z hz => by omega
      rw [e', show ((r.list.length : Int) + 1).toNat = r.list.length + 1 by omega, recF_none _ _ _ _ (by
        split
        · exact hkz _ (by rw [← hlen]; exact ((r.add t).clo_ge p).2)
        · show (r.list ++ [t]).length ≤ _; simp), List.nil_append]
      by_cases h1 : p = q
      · subst h1
        rw [hcq, Int.toNat_natCast, hlt]
        by_cases hm : mode = 3
        · rw [if_pos ⟨hm, by omega⟩, if_pos ⟨hm, rfl⟩]
        · rw [if_neg (fun e => hm e.1), if_neg (fun e => hm e.1)]
      · rw [if_neg (show ¬ (mode = 3 ∧ p = q) from fun e => h1 e.2), hnon _ (by omega)]
        by_cases hm : mode = 3
        · have hl0 : r.list.length = 0 := by
            by_cases h0 : r.list.length = 0
            · exact h0
            · exact absurd (by unfold Rk.cop; rw [if_neg h0, if_pos (by rw [h.rm]; omega)]; exact Int.le_refl _) hc
          rw [if_neg (fun e => by rw [clo_list (List.eq_nil_of_length_eq_zero hl0)] at e; omega)]
        · rw [if_neg (fun e => hm e.1)]
  refine ⟨hI.mode.trans h.bm, hI.back.trans h.bb, hbn, ?_, h.rm, h.rn, h.rb, by rw [hI.now]; exact h.now, by rw [hI.now]; exact h.n0, hpt, fun p hp => ?_, hcp, fun hm => ?_, by rw [hI.given]; exact h.gv, fun e => (by rw [hI.given, hgiv] at e; cases e), fun _ p hp => ?_, fun _ e => ?_⟩
  · rw [hI.logs]
    split
    · rw [List.length_set]; exact h.bl
    · exact h.bl
  · by_cases h1 : p = q
    · subst h1; omega
    · rw [hnon _ h1] at hp; exact h.kn p hp
  · rw [hcp]
    rcases hs : b'.shutB back with _ | _
    · exact decide_eq_false (fun h0 => by rw [hshut.2 ((hcopm1 hm).1 h0)] at hs; cases hs)
    · exact decide_eq_true ((hcopm1 hm).2 (hshut.1 hs))
  · have h1 := h.lg hgiv
    have hb3 : b.mode = mode := h.bm
    by_cases hc : b'.copied = true
    · rw [if_pos hc, hlog p hp hc, hI.logs, hb3]
      by_cases hm : mode = 3
      · rw [if_pos hm]
        by_cases h2 : p = q
        · subst h2
          rw [getD_set_eq _ _ _ _ (by rw [h.bl]; exact hp), if_pos (show mode = 3 ∧ p = p from ⟨hm, rfl⟩), h1 p hp]
        · rw [getD_set_ne _ _ _ _ _ h2, if_neg (show ¬ (mode = 3 ∧ p = q) from fun e => h2 e.2), List.append_nil, h1 p hp]
      · rw [if_neg hm, if_neg (show ¬ (mode = 3 ∧ p = q) from fun e => hm e.1), List.append_nil, h1 p hp]
    · rw [if_neg hc]
      have hm : mode = 1 := by
        by_cases hm : mode = 1
        · exact hm
        · exfalso; refine hc ?_
          rw [hI.copied, show (b.mode != 1) = true by rw [h.bm]; simp [hm]]
          simp
      have hcb : b.copied = false := by
        rcases hcb : b.copied with _ | _
        · rfl
        · exfalso; refine hc ?_
          rw [hI.copied, hcb]; rfl
      rw [hI.logs, hb3, if_neg (by omega), h1 p hp, if_neg (by rw [hcb]; simp)]
  · have hc1 : 0 ≤ (r.add t).cop := by rw [hcp] at e; exact of_decide_eq_true e
    unfold Rk.st Rk.pd
    show b'.st = ((r.list ++ [t]).getD _ z109).f4 ∧ b'.pend = ((r.list ++ [t]).getD _ z109).f5
    rcases hcop with ⟨hc, e'⟩ | ⟨hc, e'⟩
    · have hcb : b.copied = true := by rw [h.cp]; exact decide_eq_true hc
      obtain ⟨h1, h2⟩ := hI.old hcb
      obtain ⟨h3, h4⟩ := h.sp hgiv hcb
      have := cop_lt r hc
      rw [e', getD_add _ _ _ (by omega), h1, h2, h3, h4]
      exact ⟨rfl, rfl⟩
    · obtain ⟨h1, h2⟩ := hI.new (by rw [h.cp]; exact decide_eq_false hc) e
      have e2 : (r.add t).cop = r.list.length := by rcases e' with e' | e' <;> omega
      rw [e2, Int.toNat_natCast, getD_last, h1, h2, ht]
      exact ⟨rfl, rfl⟩
theorem Rel.markOk (h : Rel b r mode back n) (hn : 1 ≤ n) (hlo : -1 ≤ back) (hbn : ¬ (back = 0 ∧ n = 1)) (port id : Int) (x : List S45) (s : S34) (y : List S45) :
    Rel (b.mark port id x s y) (r.mark port id x s y) mode back n ∧ r.markC port id x s y = b.markC port id x s y := by
  have hE := h.markE port id
  by_cases h0 : b.markE port id = 0
  rotate_left
  · have e1 : b.closes port id = false := by unfold Bk.closes; rw [beq_false_of_ne h0]; rfl
    have e2 : b.mark port id x s y = b := by unfold Bk.mark; rw [if_neg (by rw [e1]; simp)]
    have e3 : r.mark port id x s y = r := by unfold Rk.mark; rw [if_neg (by rw [hE]; exact fun e => h0 e.1)]
    refine ⟨by rw [e2, e3]; exact h, ?_⟩
    unfold Rk.markC Bk.markC
    rw [e1, hE, beq_false_of_ne h0]
    rfl
  have hk : b.knows port = true := by
    unfold Bk.markE at h0
    split at h0
    · omega
    · rename_i h1; simpa using h1
  have hid : 1 ≤ id := by
    unfold Bk.markE at h0
    split at h0
    · omega
    · split at h0
      · omega
      · omega
  obtain ⟨h, hnil⟩ := h
  obtain ⟨q, rfl, hq⟩ := Bk.knows_nat hk
  have hqn : q < n := by rw [← h.bn]; exact hq
  have hb1 : Rel0 (b.begun id) (r.begun id) mode back n ∧ (b.now < id ∨ b.now = id → (r.begun id).last = id) := by
    unfold Bk.begun Rk.begun
    rw [h.now]
    by_cases hlt : b.now < id
    · rw [if_pos hlt, if_pos hlt]
      exact ⟨Rel0.fresh b r id h.bm h.bb h.bn h.rm h.rn h.rb (by omega) hn hlo hbn, fun _ => rfl⟩
    · rw [if_neg hlt, if_neg hlt]
      exact ⟨h, fun e => by have := h.now; omega⟩
  have hcl : b.closes q id = !r.skips q id := by
    unfold Bk.closes Rk.skips
    rw [h0, h.now, Int.toNat_natCast]
    by_cases hlt : b.now < id
    · have e1 : (b.begun id).ports.getD q 0 = 0 := by
        unfold Bk.begun
        rw [if_pos hlt]
        unfold Bk.freshed
        rw [List.getD_eq_getElem?_getD, List.getElem?_replicate]
        split <;> rfl
      rw [e1, decide_eq_false (by omega : ¬ id < b.now), beq_false_of_ne (by omega : id ≠ b.now)]
      rfl
    · by_cases he : id = b.now
      · have e1 : (b.begun id).ports.getD q 0 = if 0 ≤ r.clo q then 1 else 0 := by
          unfold Bk.begun
          rw [if_neg hlt]
          exact h.cl q hqn
        rw [e1, decide_eq_false (by omega : ¬ id < b.now), he]
        by_cases h2 : 0 ≤ r.clo q
        · rw [if_pos h2, decide_eq_true h2]; simp
        · rw [if_neg h2, decide_eq_false h2]; simp
      · rw [decide_eq_true (by omega : id < b.now)]; rfl
  rcases hs : r.skips q id with _ | _
  rotate_left
  · rw [hs] at hcl
    have e2 : b.mark q id x s y = b := by unfold Bk.mark; rw [if_neg (by rw [hcl]; simp)]
    have e3 : r.mark q id x s y = r := by unfold Rk.mark; rw [if_neg (by rw [hs]; simp)]
    refine ⟨by rw [e2, e3]; exact ⟨h, hnil⟩, ?_⟩
    unfold Rk.markC Bk.markC
    rw [hcl, hs]
    simp
  · rw [hs] at hcl
    have e2 : b.mark q id x s y = (b.begun id).close q x s y := by unfold Bk.mark; rw [if_pos (show b.closes q id = true by rw [hcl]; rfl), Int.toNat_natCast]
    have e3 : r.mark q id x s y = (r.begun id).add (toldM q id x s y) := by unfold Rk.mark; rw [if_pos ⟨hE.trans h0, hs⟩]
    have hle : b.now < id ∨ b.now = id := by
      unfold Rk.skips at hs
      simp only [Bool.or_eq_false_iff, decide_eq_false_iff_not] at hs
      have := hs.1
      rw [h.now] at this
      omega
    have hlast := hb1.2 hle
    have hop : ¬ 0 ≤ (r.begun id).clo q := by
      unfold Rk.begun
      rw [h.now]
      by_cases hlt : b.now < id
      · rw [if_pos hlt, clo_list rfl]; omega
      · rw [if_neg hlt]
        unfold Rk.skips at hs
        simp only [Bool.or_eq_false_iff, decide_eq_false_iff_not, Bool.and_eq_false_iff] at hs
        rcases hs.2 with h1 | h1
        · rw [h.now] at h1; simp at h1; omega
        · exact h1
    have hR := hb1.1.close hqn hop (by rw [hlast]; exact hid) hn x s y
    rw [hlast] at hR
    have hM : Rel (b.mark q id x s y) (r.mark q id x s y) mode back n := by
      rw [e2, e3]
      refine ⟨hR, ?_⟩
      rw [add_len, (close_is (b.begun id) q x s y).now, ← hb1.1.now, hlast]
      exact ⟨fun e => by omega, fun e => by omega⟩
    refine ⟨hM, ?_⟩
    unfold Rk.markC Bk.markC
    rw [hcl, hs, hE, h0, hM.1.cp, hb1.1.cp]
    by_cases h1 : (r.begun id).cop < 0
    · rw [decide_eq_true h1, decide_eq_false (by omega : ¬ 0 ≤ (r.begun id).cop)]; simp
    · rw [decide_eq_false h1, decide_eq_true (by omega : 0 ≤ (r.begun id).cop)]; simp
theorem Rel.ready (h : Rel b r mode back n) : r.ready = b.ready := by
  obtain ⟨h, _⟩ := h
  unfold Rk.ready Bk.ready
  rw [h.cp, h.gv]
  congr 1
  rw [h.rn, Int.toNat_natCast]
  rw [Bool.eq_iff_iff, List.all_eq_true]
  constructor
  · intro hs
    refine Bk.shutB_true (fun i hi h0 => ?_)
    rw [h.bn] at hi
    have h1 := of_decide_eq_true (hs i (List.mem_range.2 hi))
    have := h.cl i hi
    rw [if_pos h1] at this
    omega
  · intro hs i hi
    have hi' := List.mem_range.1 hi
    by_cases h1 : 0 ≤ r.clo i
    · exact decide_eq_true h1
    · have := h.cl i hi'
      rw [if_neg h1] at this
      rw [Bk.shutB_false i (by rw [h.bn]; exact hi') this (by omega)] at hs
      cases hs
theorem Rel.parts (h : Rel b r mode back n) (hr : r.ready = true) : b.st = r.st ∧ b.logs = r.logs ∧ b.pend = r.pd ∧ b.now = r.last ∧ Rel b.handed r.handedR mode back n := by
  have hr' := hr
  rw [h.ready] at hr'
  obtain ⟨h, hnil⟩ := h
  unfold Bk.ready at hr'
  simp only [Bool.and_eq_true, Bool.not_eq_true'] at hr'
  obtain ⟨⟨hc, hg⟩, hs⟩ := hr'
  have hall : ∀ p : Nat, p < n → 0 ≤ r.clo p := fun p hp => by
    unfold Rk.ready at hr
    simp only [Bool.and_eq_true, List.all_eq_true] at hr
    exact of_decide_eq_true (hr.2 p (List.mem_range.2 (by rw [h.rn, Int.toNat_natCast]; exact hp)))
  obtain ⟨h1, h2⟩ := h.sp hg hc
  refine ⟨h1, ?_, h2, h.now.symm, ⟨h.bm, h.bb, h.bn, by unfold Bk.handed; simp only [List.length_replicate]; exact h.bn, h.rm, h.rn, h.rb, h.now, h.n0, h.cl, h.kn, by rw [cop_handed]; exact h.cp, h.al, rfl, fun _ => ⟨hc, hall⟩, fun e => (by cases e), fun e => (by cases e)⟩, hnil⟩
  unfold Rk.logs
  rw [h.rn, Int.toNat_natCast]
  refine List.ext_getElem (by rw [List.length_map, List.length_range]; exact h.bl) (fun i h3 h4 => ?_)
  rw [h.bl] at h3
  have := h.lg hg i h3
  rw [if_pos hc, logSo_log (hall i h3), List.getD_eq_getElem?_getD, List.getElem?_eq_getElem (by rw [h.bl]; exact h3)] at this
  simp at this ⊢
  exact this
theorem Rel.notReady (h : Rel b r mode back n) (hr : r.ready = false) : b.ready = false := by rw [← h.ready]; exact hr
end
end Go.Proofs.Ytomfknblehkocaa.C
