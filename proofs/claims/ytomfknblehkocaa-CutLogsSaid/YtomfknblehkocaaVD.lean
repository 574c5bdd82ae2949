/- A book and a view in one world; the view's numbers. -/
import Derived.Test.YtomfknblehkocaaVC
import Derived.Test.YtomfknblehkocaaIN
namespace Go.Proofs.Ytomfknblehkocaa.C
open Go.RowKit Go.Proofs.YtomfknblehkocaaW.PrintWords Go.Proofs.YtomfknblehkocaaW.PrintLast
set_option linter.unusedVariables false
set_option linter.unusedSimpArgs false

theorem partsOs_take_le (l : List S47) (k : Nat) : partsOs (l.take k) ≤ partsOs l := by
  conv => rhs; rw [← List.take_append_drop k l]
  unfold partsOs
  rw [List.map_append, List.sum_append]
  omega
theorem partsOs_step (l : List S47) (k : Nat) (z : S47) (h : k < l.length) : partsOs (l.take (k + 1)) = partsOs (l.take k) + partsO (l.getD k z) := by
  unfold partsOs
  exact sum_take_succ partsO l z k h
theorem legal_nat {mode ports back : Int} (h : newE mode ports back = 0) : (mode = 1 ∨ mode = 2 ∨ mode = 3) ∧ ∃ n : Nat, ports = n ∧ 1 ≤ n ∧ n ≤ 4 ∧ -1 ≤ back ∧ back < n ∧ ¬ (back = 0 ∧ n = 1) := by
  unfold newE at h
  split at h
  · omega
  · split at h
    · omega
    · exact ⟨by omega, ports.toNat, by omega, by omega, by omega, by omega, by omega, by omega⟩
theorem newE_bad {mode ports back : Int} (h : newE mode ports back ≠ 0) : newE mode ports back = 130 ∨ newE mode ports back = 131 := by
  unfold newE at *
  split at h
  · exact .inl (by rw [if_pos (by assumption)])
  · split at h
    · right; rw [if_neg (by assumption), if_pos (by assumption)]
    · exact absurd rfl h
theorem BkI.below {w W : World} {base g : Nat} {own : Nat → Nat} {b : Bk} (h : BkI w base own g b) (hb : Below w.heap.size w W) : BkI W base own g b := by
  obtain ⟨gp, gl, vc, vd, lv, h⟩ := h
  exact ⟨gp, gl, vc, vd, lv, h.below hb⟩
theorem BkI.lo {w : World} {base g : Nat} {own : Nat → Nat} {b : Bk} (h : BkI w base own g b) : ∀ k, own k ≠ 0 → base ≤ k ∧ k < w.heap.size := by
  obtain ⟨gp, gl, vc, vd, lv, h⟩ := h
  exact h.lo
theorem VwI.lo {w : World} {base g : Nat} {own : Nat → Nat} {v : Vw} (h : VwI w base own g v) : ∀ k, own k ≠ 0 → base ≤ k ∧ k < w.heap.size := by
  obtain ⟨va, vp, lv, h⟩ := h
  exact h.lo
theorem VwI.kept {w W : World} {base g : Nat} {own o2 o2' : Nat → Nat} {v : Vw} (h : VwI w base own g v) (u : Upd o2 w o2' W) (hd : ∀ k, own k ≠ 0 → o2 k = 0) : VwI W base own g v := by
  obtain ⟨va, vp, lv, h⟩ := h
  exact ⟨va, vp, lv, h.kept u hd⟩
theorem BkI.keptV {w w' : World} {base g : Nat} {ob oR oR' : Nat → Nat} {b : Bk} (h : BkI w base ob g b) (u : Upd oR w oR' w') (hd : ∀ k, ob k ≠ 0 → oR k = 0) : BkI w' base ob g b := by
  obtain ⟨gp, gl, vc, vd, lv, h⟩ := h
  have hm : ∀ k, ob k ≠ 0 → w'.heap[k]? = w.heap[k]? := fun k hk => u.block k (h.lo k hk).2 (hd k hk)
  have hR : ∀ {α : Type} {d : Kd α} {e t : Nat} {v : Value} {xs : List α}, 1 ≤ t → d.R e w base (fun k => ob k = t) v xs → d.R e w' base (fun k => ob k = t) v xs := fun ht hR => Kd.R_move hR (fun k hk => hm k (by omega))
  exact ⟨gp, gl, vc, vd, lv, (hm g (by have := h.og; omega)).trans h.hb, (hm gp (by have := h.op; omega)).trans h.hp, (hm gl (by have := h.ol; omega)).trans h.hl, h.ll, h.lb, h.lp, fun i hi => hR (by omega) (h.rl i hi), hR (by omega) h.rc, hR (by omega) h.rd, h.og, h.op, h.ol, fun k hk => ⟨(h.lo k hk).1, Nat.lt_of_lt_of_le (h.lo k hk).2 u.size⟩⟩
/-- A book and a view, and nothing else that stood in w has turned. -/
structure HV (w W : World) (ob ov : Nat → Nat) (gb gv : Nat) (b : Bk) (v : Vw) : Prop where
  bk : BkI W w.heap.size ob gb b
  vw : VwI W w.heap.size ov gv v
  dj : ∀ k, ov k ≠ 0 → ob k = 0
  bl : Below w.heap.size w W
section
variable {w W W' : World} {ob ov : Nat → Nat} {gb gv : Nat} {b b' : Bk} {v v' : Vw}
theorem HV.below (h : HV w W ob ov gb gv b v) (hb : Below W.heap.size W W') : HV w W' ob ov gb gv b v :=
  ⟨h.bk.below hb, h.vw.kept (o2 := fun _ => 0) (o2' := fun _ => 0) (Upd.of_below hb (fun _ _ => rfl)) (fun _ _ => rfl), h.dj, h.bl.trans (hb.mono h.bl.size)⟩
theorem HV.book (h : HV w W ob ov gb gv b v) (p : BkPost w.heap.size ob gb b' W W') : ∃ ob', HV w W' ob' ov gb gv b' v ∧ Upd ob W ob' W' := by
  obtain ⟨ob', h2, u⟩ := p
  refine ⟨ob', ⟨h2, h.vw.kept u h.dj, fun k hk => u.same k (h.vw.lo k hk).2 (h.dj k hk), h.bl.trans (u.below h.bl.size (fun k hk => ?_))⟩, u⟩
  by_cases h0 : ob k = 0
  · exact h0
  · have := (h.bk.lo k h0).1; omega
theorem HV.view (h : HV w W ob ov gb gv b v) (p : VwPost w.heap.size ov gv v' W W') : ∃ ov', HV w W' ob ov' gb gv b v' ∧ Upd ov W ov' W' := by
  obtain ⟨ov', h2, u⟩ := p
  have hd : ∀ k, ob k ≠ 0 → ov k = 0 := fun k hk => by
    by_cases h0 : ov k = 0
    · exact h0
    · exact absurd (h.dj k h0) hk
  refine ⟨ov', ⟨h.bk.keptV u hd, h2, fun k hk => ?_, h.bl.trans (u.below h.bl.size (fun k hk => ?_))⟩, u⟩
  · by_cases h0 : ob k = 0
    · exact h0
    · exact absurd (u.same k (h.bk.lo k h0).2 (hd k h0)) hk
  · by_cases h0 : ov k = 0
    · exact h0
    · have := (h.vw.lo k h0).1; omega
theorem HV.freeB (h : HV w W ob ov gb gv b v) {k : Nat} (hk : W.heap.size ≤ k) : ob k = 0 := by
  by_cases h0 : ob k = 0
  · exact h0
  · have := (h.bk.lo k h0).2; omega
theorem HV.freeV (h : HV w W ob ov gb gv b v) {k : Nat} (hk : W.heap.size ≤ k) : ov k = 0 := by
  by_cases h0 : ov k = 0
  · exact h0
  · have := (h.vw.lo k h0).2; omega
theorem HV.awayB (h : HV w W ob ov gb gv b v) {α : Type} {d : Kd α} {A : Option Addr} {xs : List α} (hC : Kd.C d w A xs.length xs) : Away d ob W A xs := Away.of_C hC h.bl (fun k hk => (h.bk.lo k hk).1)
theorem HV.awayV (h : HV w W ob ov gb gv b v) {α : Type} {d : Kd α} {A : Option Addr} {xs : List α} (hC : Kd.C d w A xs.length xs) : Away d ov W A xs := Away.of_C hC h.bl (fun k hk => (h.vw.lo k hk).1)
theorem HV.start (hk : BkI W w.heap.size ob gb b) (hb : Below w.heap.size w W) : HV w (W.alloc (.cells #[.int .i64 0, .bool false, .int .i64 0, .slice none 0 0, .slice none 0 0, .bool false, .bool false, .bool false, .bool false, .slice none 0 0, .slice none 0 0, .slice none 0 0, .slice none 0 0, .bool false] 39)) ob (fun k => if k = W.heap.size then 1 else 0) gb W.heap.size b (Vw.fresh 0) := by
  have hn : ∀ k, (if k = W.heap.size then 1 else 0 : Nat) ≠ 0 → k = W.heap.size := fun k hk => by
    by_cases e : k = W.heap.size
    · exact e
    · rw [if_neg e] at hk; exact absurd rfl hk
  have s0 := hb.size
  refine ⟨hk.below ((Below.refl _ _).alloc (Nat.le_refl _) _), ⟨.slice none 0 0, .slice none 0 0, fun _ => .slice none 0 0, blk_new W _, Kd.R_nil _ _ _ _ _, Kd.R_nil _ _ _ _ _, fun i hi => ?_, if_pos rfl, fun k hk => ?_, rfl, rfl⟩, fun k hk2 => ?_, hb.alloc hb.size _⟩
  · rw [logs_fresh]; exact Kd.R_nil _ _ _ _ _
  · have := hn k hk; rw [World.size_alloc]; omega
  · have e := hn k hk2
    by_cases h0 : ob k = 0
    · exact h0
    · have := (hk.lo k h0).2; omega
end
def VF (v : Vw) (N : Nat) : Prop := ∀ i, (v.logs.getD i []).length ≤ N
theorem VF.mono {v : Vw} {N M : Nat} (h : VF v N) (hm : N ≤ M) : VF v M := fun i => Nat.le_trans (h i) hm
theorem VF.fresh (id : Int) (N : Nat) : VF (Vw.fresh id) N := fun i => by rw [logs_fresh]; exact Nat.zero_le _
theorem VF.begun {v : Vw} {N : Nat} (h : VF v N) (id : Int) : VF (v.begun id) N := by
  unfold Vw.begun
  split
  · exact VF.fresh _ _
  · exact h
theorem VF.told {v : Vw} {N : Nat} (h : VF v N) (c : Bool) (s : S34) (y : List S45) : VF (v.told c s y) N := by
  unfold Vw.told
  split
  · exact h
  · exact h
theorem VF.logged {v : Vw} {N : Nat} (h : VF v N) (p : Nat) (x : List S45) : VF (v.logged p x) (N + x.length) := fun i => by
  show ((v.logs.set p (v.logs.getD p [] ++ x)).getD i []).length ≤ _
  by_cases e : i = p
  · subst e
    by_cases hl : i < v.logs.length
    · rw [getD_set_eq _ _ _ _ hl, List.length_append]
      have := h i
      omega
    · rw [List.getD_eq_getElem?_getD, List.getElem?_eq_none (by rw [List.length_set]; omega)]
      simp
  · rw [getD_set_ne _ _ _ _ _ e]
    have := h i
    omega
theorem VF.sees {v : Vw} {N : Nat} (h : VF v N) (port id : Int) (x : List S45) (s : S34) (y : List S45) (c : Bool) (mode : Int) : VF (v.sees port id x s y c mode) (N + x.length) := by
  unfold Vw.sees
  split
  · exact h.mono (by omega)
  · split
    · exact VF.logged (v := (((v.begun id).told c s y).close port.toNat)) ((h.begun id).told c s y) port.toNat x
    · exact VF.mono (v := (((v.begun id).told c s y).close port.toNat)) ((h.begun id).told c s y) (by omega)
/-- Two views that differ at most in their logs and what was copied. -/
def Lk (v u : Vw) : Prop := v.id = u.id ∧ v.copied = u.copied ∧ v.closed = u.closed
theorem Lk.refl (v : Vw) : Lk v v := ⟨rfl, rfl, rfl⟩
theorem Lk.held {v u : Vw} (h : Lk v u) (port mode : Int) (n : Nat) : v.held port mode n = u.held port mode n := by unfold Vw.held Vw.shut; rw [h.1, h.2.1, h.2.2]
theorem Lk.copies {v u : Vw} (h : Lk v u) (port id mode : Int) (n : Nat) (back : Int) : v.copies port id mode n back = u.copies port id mode n back := by unfold Vw.copies Vw.shut; rw [h.1, h.2.1, h.2.2]
theorem Lk.begun {v u : Vw} (h : Lk v u) (id : Int) : Lk (v.begun id) (u.begun id) := by
  unfold Vw.begun
  rw [h.1]
  split
  · exact Lk.refl _
  · exact h
theorem Lk.told {v u : Vw} (h : Lk v u) (c : Bool) (s : S34) (y : List S45) : Lk (v.told c s y) (u.told c s y) := by
  unfold Vw.told
  split
  · exact ⟨h.1, rfl, h.2.2⟩
  · exact h
theorem Lk.close {v u : Vw} (h : Lk v u) (p : Nat) : Lk (v.close p) (u.close p) := ⟨h.1, h.2.1, by show v.closed.set p true = u.closed.set p true; rw [h.2.2]⟩
theorem Lk.sees {v u : Vw} (h : Lk v u) (port id : Int) (x : List S45) (s : S34) (y : List S45) (c : Bool) (mode : Int) : Lk (v.sees port id x s y c mode) (u.sees port id x s y c mode) := by
  unfold Vw.sees
  rw [show v.skips port id = u.skips port id by unfold Vw.skips Vw.shut; rw [h.1, h.2.2]]
  split
  · exact h
  · have k := ((h.begun id).told c s y).close port.toNat
    split
    · exact k
    · exact k
theorem Lk.logged {v u : Vw} (h : Lk v u) (p : Nat) (x : List S45) : Lk v (u.logged p x) := h
section
variable {w : World} {base : Nat} {own : Nat → Nat} {g : Nat} {v : Vw}
theorem copies30o (h : VwI w base own g v) (o : S47) (A8 : Option Addr) (c8 : Nat) (A9 : Option Addr) (c9 : Nat) (A10 : Option Addr) (c10 : Nat) (A11 : Option Addr) (c11 : Nat) (A13 : Option Addr) (c13 : Nat) (n : Nat) (hp : 0 ≤ o.f2) (hp4 : o.f2 < 4) (hn4 : n ≤ 4) (mode back : Int) :
    Calls Try.prog 30 #[.pointer (some ⟨g, 0, none⟩), .agg #[.int .i64 o.f0, .int .i64 o.f1, .int .i64 o.f2, .int .i64 o.f3, .string o.f4.f0, .int .i64 o.f4.f1.f0, .int .i64 o.f4.f1.f1, .string o.f4.f1.f2, .slice A8 o.f4.f1.f3.length c8, .slice A9 o.f4.f2.length c9, .slice A10 o.f5.length c10, .slice A11 o.f6.length c11, .int .i64 o.f7.f0, .slice A13 o.f7.f1.length c13], .int .i64 mode, .int .i64 n, .int .i64 back] w fun e w' => e = .returned (.bool (v.copies o.f2 o.f3 mode n back)) ∧ Hid (Below w.heap.size w w') := by
  obtain ⟨va, vp, lv, h⟩ := h
  obtain ⟨p, e⟩ := Int.eq_ofNat_of_zero_le hp
  rw [e]
  exact copies30 h o A8 c8 A9 c9 A10 c10 A11 c11 A13 c13 p n (by omega) hn4 mode back
theorem sees21o (h : VwI w base own g v) (hbase : base ≤ w.heap.size) (o : S47) (A8 : Option Addr) (c8 : Nat) (A9 : Option Addr) (c9 : Nat) (A10 : Option Addr) (c10 : Nat) (A11 : Option Addr) (c11 : Nat) (A13 : Option Addr) (c13 : Nat) (hp : 0 ≤ o.f2) (hp4 : o.f2 < 4) (mode : Int) (a10 : Away k45 own w A10 o.f5) (l10 : o.f5.length ≤ c10) (a11 : Away k45 own w A11 o.f6) (l11 : o.f6.length ≤ c11) (a13 : Away k104 own w A13 o.f7.f1) (l13 : o.f7.f1.length ≤ c13) (hu : partsC o.f7.f1 ≤ 100000 ∧ partsRs o.f5 ≤ 100000 ∧ partsRs o.f6 ≤ 100000) (hlg : ∀ i, (v.logs.getD i []).length ≤ 1000000) (c : Bool) :
    Calls Try.prog 21 #[.pointer (some ⟨g, 0, none⟩), .agg #[.int .i64 o.f0, .int .i64 o.f1, .int .i64 o.f2, .int .i64 o.f3, .string o.f4.f0, .int .i64 o.f4.f1.f0, .int .i64 o.f4.f1.f1, .string o.f4.f1.f2, .slice A8 o.f4.f1.f3.length c8, .slice A9 o.f4.f2.length c9, .slice A10 o.f5.length c10, .slice A11 o.f6.length c11, .int .i64 o.f7.f0, .slice A13 o.f7.f1.length c13], .bool c, .int .i64 mode] w fun e w' => e = .returned (.tuple #[]) ∧ VwPost base own g (v.sees o.f2 o.f3 o.f5 o.f7 o.f6 c mode) w w' := by
  obtain ⟨va, vp, lv, h⟩ := h
  obtain ⟨p, e⟩ := Int.eq_ofNat_of_zero_le hp
  rw [e]
  exact sees21 h hbase o A8 c8 A9 c9 A10 c10 A11 c11 A13 c13 p (by omega) mode a10 l10 a11 l11 a13 l13 hu hlg c
end
end Go.Proofs.Ytomfknblehkocaa.C
