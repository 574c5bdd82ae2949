/- A pair of books in memory; how much the document's book holds. -/
import Derived.Test.YtomfknblehkocaaPR
import Derived.Test.YtomfknblehkocaaWR
namespace Go.Proofs.Ytomfknblehkocaa.C
open Go.RowKit Go.Proofs.YtomfknblehkocaaW.PrintWords Go.Proofs.YtomfknblehkocaaW.PrintLast
set_option linter.unusedVariables false
set_option linter.unusedSimpArgs false
def partsT (t : S109) : Nat := partsR t.f2 + partsRs t.f3 + partsC t.f4.f1 + partsRs t.f5
def partsTs (l : List S109) : Nat := (l.map partsT).sum
theorem sub_sum {α : Type} (f : α → Nat) {l l' : List α} (h : List.Sublist l l') : (l.map f).sum ≤ (l'.map f).sum := by
  induction h with
  | slnil => exact Nat.le_refl _
  | cons a _ ih => simp only [List.map_cons, List.sum_cons]; omega
  | cons_cons a _ ih => simp only [List.map_cons, List.sum_cons]; omega
theorem sum_le {α : Type} (f g : α → Nat) (h : ∀ x, f x ≤ g x) : ∀ l : List α, (l.map f).sum ≤ (l.map g).sum
  | [] => Nat.le_refl _
  | a :: l => by have := sum_le f g h l; have := h a; simp only [List.map_cons, List.sum_cons]; omega
theorem sum_add {α : Type} (f g : α → Nat) : ∀ l : List α, (l.map fun x => f x + g x).sum = (l.map f).sum + (l.map g).sum
  | [] => rfl
  | a :: l => by have := sum_add f g l; simp only [List.map_cons, List.sum_cons]; omega
theorem partsTs_mem {l : List S109} {t : S109} (h : t ∈ l) : partsT t ≤ partsTs l := le_sum_of_mem (List.mem_map_of_mem (f := partsT) h)
theorem partsTs_getD (l : List S109) (k : Nat) : partsT (l.getD k z109) ≤ partsTs l + 1 := by
  by_cases h : k < l.length
  · rw [List.getD_eq_getElem?_getD, List.getElem?_eq_getElem h]
    exact Nat.le_succ_of_le (partsTs_mem (List.getElem_mem _))
  · rw [List.getD_eq_getElem?_getD, List.getElem?_eq_none (by omega)]
    have : partsT z109 = 1 := by simp [partsT, z109, z45, z42, z34, partsR, partsRs, partsC, partsV]
    show partsT z109 ≤ _
    omega
theorem RSz.of {r : Rk} {N : Nat} (h : partsTs r.list ≤ N) (hN : N ≤ 90000) : RSz r := by
  have hlen : r.list.length ≤ partsTs r.list := by
    have h1 : ∀ l : List S109, l.length ≤ partsTs l := fun l => by
      induction l with
      | nil => exact Nat.le_refl _
      | cons a l ih =>
        have : 1 ≤ partsT a := by unfold partsT partsR; omega
        unfold partsTs at ih ⊢
        simp only [List.length_cons, List.map_cons, List.sum_cons]
        omega
    exact h1 _
  refine ⟨by omega, fun t ht => ?_, ?_, ?_, fun p => ?_⟩
  · have h1 := partsTs_mem ht
    have h2 := partsRs_len t.f3
    unfold partsT at h1
    omega
  · have := partsTs_getD r.list r.cop.toNat
    unfold partsT at this
    unfold Rk.st
    omega
  · have := partsTs_getD r.list r.cop.toNat
    unfold partsT at this
    unfold Rk.pd
    omega
  · have h1 : partsRs (recF p r.list (r.cop + 1).toNat (r.clo p).toNat) ≤ (r.list.map fun t => partsR t.f2).sum := by
      unfold partsRs recF
      rw [List.map_map]
      exact sub_sum _ ((List.filter_sublist).trans ((List.drop_sublist _ _).trans (List.take_sublist _ _)))
    have h2 : partsRs (if r.mode = 3 then (r.list.getD (r.clo p).toNat z109).f3 else []) ≤ (r.list.map fun t => partsRs t.f3).sum := by
      split
      · by_cases hk : (r.clo p).toNat < r.list.length
        · rw [List.getD_eq_getElem?_getD, List.getElem?_eq_getElem hk]
          exact le_sum_of_mem (List.mem_map_of_mem (f := fun t : S109 => partsRs t.f3) (List.getElem_mem hk))
        · rw [List.getD_eq_getElem?_getD, List.getElem?_eq_none (by omega)]
          exact Nat.zero_le _
      · exact Nat.zero_le _
    have h3 : (r.list.map fun t => partsR t.f2).sum + (r.list.map fun t => partsRs t.f3).sum ≤ partsTs r.list := by
      rw [← sum_add]
      exact sum_le _ _ (fun t => by unfold partsT; omega) _
    have h4 : partsRs (r.log p) = partsRs (recF p r.list (r.cop + 1).toNat (r.clo p).toNat) + partsRs (if r.mode = 3 then (r.list.getD (r.clo p).toNat z109).f3 else []) := by
      unfold Rk.log partsRs
      rw [List.map_append, List.sum_append]
    omega
theorem partsTs_add (r : Rk) (t : S109) : partsTs (r.add t).list = partsTs r.list + partsT t := by
  unfold partsTs
  show (List.map partsT (r.list ++ [t])).sum = _
  rw [List.map_append, List.sum_append]
  simp
theorem partsTs_took (r : Rk) (port : Int) (x : S45) : partsTs (r.took port x).list ≤ partsTs r.list + partsR x := by
  unfold Rk.took
  split
  · rw [partsTs_add]
    have : partsT (toldR port x) = partsR x := by simp [partsT, toldR, partsRs, partsC]
    omega
  · omega
theorem partsTs_mark (r : Rk) (port id : Int) (x : List S45) (s : S34) (y : List S45) : partsTs (r.mark port id x s y).list ≤ partsTs r.list + (1 + partsRs x + partsC s.f1 + partsRs y) := by
  unfold Rk.mark
  split
  · rw [partsTs_add]
    have h1 : partsT (toldM port id x s y) = 1 + partsRs x + partsC s.f1 + partsRs y := by simp [partsT, toldM, partsR, partsV]
    have h2 : partsTs (r.begun id).list ≤ partsTs r.list := by
      unfold Rk.begun
      split
      · exact Nat.zero_le _
      · exact Nat.le_refl _
    omega
  · omega
/-- Both books' blocks. -/
def both (ob oR : Nat → Nat) : Nat → Nat := fun k => ob k + oR k
theorem Upd.bothR {ob oR oR' : Nat → Nat} {w w' : World} (u : Upd oR w oR' w') : Upd (both ob oR) w (both ob oR') w' :=
  ⟨u.os, u.tape, u.output, u.size, fun k hk h => by unfold both at h ⊢; have := u.same k hk (by omega); omega, fun k hk h => u.block k hk (by unfold both at h; omega)⟩
theorem Upd.bothB {ob ob' oR : Nat → Nat} {w w' : World} (u : Upd ob w ob' w') : Upd (both ob oR) w (both ob' oR) w' :=
  ⟨u.os, u.tape, u.output, u.size, fun k hk h => by unfold both at h ⊢; have := u.same k hk (by omega); omega, fun k hk h => u.block k hk (by unfold both at h; omega)⟩
theorem Away.r {α : Type} {d : Kd α} {ob oR : Nat → Nat} {w : World} {A : Option Addr} {xs : List α} (h : Away d (both ob oR) w A xs) : Away d oR w A xs := fun o W u => h _ W u.bothR
theorem Away.b {α : Type} {d : Kd α} {ob oR : Nat → Nat} {w : World} {A : Option Addr} {xs : List α} (h : Away d (both ob oR) w A xs) : Away d ob w A xs := fun o W u => h _ W u.bothB
theorem Away.of_made {α : Type} {d : Kd α} {e : Nat} {own : Nat → Nat} {w : World} {B : Nat} {A : Option Addr} {n c : Nat} {xs : List α} (h : d.R e w B (fun _ => True) (.slice A n c) xs) (ho : ∀ k, B ≤ k → own k = 0) : Away d own w A xs := fun o W u => by
  have h1 := Kd.R_bound h
  exact (Kd.R_reads' (Kd.R_move h1 (fun k hk => u.block k hk.2.2.1 (ho k hk.2.1)))).2.2
theorem BkI.kept {w w' : World} {base g : Nat} {ob oR oR' : Nat → Nat} {b : Bk} (h : BkI w base ob g b) (u : Upd oR w oR' w') (hd : ∀ k, ob k ≠ 0 → oR k = 0) : BkI w' base ob g b := by
  obtain ⟨gp, gl, vc, vd, lv, h⟩ := h
  have hm : ∀ k, ob k ≠ 0 → w'.heap[k]? = w.heap[k]? := fun k hk => u.block k (h.lo k hk).2 (hd k hk)
  have hR : ∀ {α : Type} {d : Kd α} {e t : Nat} {v : Value} {xs : List α}, 1 ≤ t → d.R e w base (fun k => ob k = t) v xs → d.R e w' base (fun k => ob k = t) v xs := fun ht hR => Kd.R_move hR (fun k hk => hm k (by omega))
  exact ⟨gp, gl, vc, vd, lv, (hm g (by have := h.og; omega)).trans h.hb, (hm gp (by have := h.op; omega)).trans h.hp, (hm gl (by have := h.ol; omega)).trans h.hl, h.ll, h.lb, h.lp, fun i hi => hR (by omega) (h.rl i hi), hR (by omega) h.rc, hR (by omega) h.rd, h.og, h.op, h.ol, fun k hk => ⟨(h.lo k hk).1, Nat.lt_of_lt_of_le (h.lo k hk).2 u.size⟩⟩
theorem RkI.kept {w w' : World} {base g : Nat} {ob ob' oR : Nat → Nat} {r : Rk} (h : RkI w base oR g r) (u : Upd ob w ob' w') (hd : ∀ k, oR k ≠ 0 → ob k = 0) : RkI w' base oR g r := by
  obtain ⟨A, c, h⟩ := h
  have hm : ∀ k, oR k ≠ 0 → w'.heap[k]? = w.heap[k]? := fun k hk => u.block k (h.lo k hk).2 (hd k hk)
  exact ⟨A, c, (hm g (by have := h.og; omega)).trans h.hb, Kd.R_move h.hl (fun k hk => hm k (by have h2 : oR k = 2 := hk; omega)), h.hp, h.og, fun k hk => ⟨(h.lo k hk).1, Nat.lt_of_lt_of_le (h.lo k hk).2 u.size⟩⟩
theorem BkI.lt {w : World} {base g : Nat} {own : Nat → Nat} {b : Bk} (h : BkI w base own g b) : ∀ k, own k ≠ 0 → base ≤ k ∧ k < w.heap.size := by
  obtain ⟨gp, gl, vc, vd, lv, h⟩ := h
  exact h.lo
theorem RkI.lt {w : World} {base g : Nat} {own : Nat → Nat} {r : Rk} (h : RkI w base own g r) : ∀ k, own k ≠ 0 → base ≤ k ∧ k < w.heap.size := by
  obtain ⟨A, c, h⟩ := h
  exact h.lo
/-- A pair of books. -/
structure PairAt (W : World) (base : Nat) (ob oR : Nat → Nat) (g gb gr : Nat) (b : Bk) (r : Rk) : Prop where
  hg : W.heap[g]? = some (.cells #[.pointer (some ⟨gb, 0, none⟩), .pointer (some ⟨gr, 0, none⟩)] 65 (0, 0))
  hb : BkI W base ob gb b
  hr : RkI W base oR gr r
  ds : ∀ k, ob k ≠ 0 → oR k = 0
  g0 : ob g = 0 ∧ oR g = 0
  bs : base ≤ W.heap.size
section
variable {W W' : World} {base : Nat} {ob oR : Nat → Nat} {g gb gr : Nat} {b : Bk} {r : Rk}
theorem PairAt.ds' (h : PairAt W base ob oR g gb gr b r) : ∀ k, oR k ≠ 0 → ob k = 0 := fun k hk => by
  by_cases h1 : ob k = 0
  · exact h1
  · exact absurd (h.ds k h1) hk
theorem PairAt.below (h : PairAt W base ob oR g gb gr b r) (hb : Below W.heap.size W W') : PairAt W' base ob oR g gb gr b r := by
  refine ⟨(hb.block g (blk_lt h.hg)).trans h.hg, h.hb.below hb, ?_, h.ds, h.g0, Nat.le_trans h.bs hb.size⟩
  obtain ⟨A, c, hr⟩ := h.hr
  exact ⟨A, c, hr.below hb⟩
theorem PairAt.stepR (h : PairAt W base ob oR g gb gr b r) {r' : Rk} (hp : RkPost base oR gr r' W W') : ∃ oR', PairAt W' base ob oR' g gb gr b r' ∧ Upd (both ob oR) W (both ob oR') W' := by
  obtain ⟨oR', hr, u⟩ := hp
  exact ⟨oR', ⟨(u.block g (blk_lt h.hg) h.g0.2).trans h.hg, h.hb.kept u h.ds, hr, fun k hk => u.same k (h.hb.lt k hk).2 (h.ds k hk), ⟨h.g0.1, u.same g (blk_lt h.hg) h.g0.2⟩, Nat.le_trans h.bs u.size⟩, u.bothR⟩
theorem PairAt.stepB (h : PairAt W base ob oR g gb gr b r) {b' : Bk} (hp : BkPost base ob gb b' W W') : ∃ ob', PairAt W' base ob' oR g gb gr b' r ∧ Upd (both ob oR) W (both ob' oR) W' := by
  obtain ⟨ob', hb, u⟩ := hp
  refine ⟨ob', ⟨(u.block g (blk_lt h.hg) h.g0.1).trans h.hg, hb, h.hr.kept u h.ds', fun k hk => ?_, ⟨u.same g (blk_lt h.hg) h.g0.1, h.g0.2⟩, Nat.le_trans h.bs u.size⟩, u.bothB⟩
  by_cases h1 : oR k = 0
  · exact h1
  · exact absurd (u.same k (h.hr.lt k h1).2 (h.ds' k h1)) hk
theorem PairAt.lo (h : PairAt W base ob oR g gb gr b r) : ∀ k, both ob oR k ≠ 0 → base ≤ k ∧ k < W.heap.size := fun k hk => by
  by_cases h1 : ob k = 0
  · exact h.hr.lt k (by unfold both at hk; omega)
  · exact h.hb.lt k h1
theorem PairAt.free (h : PairAt W base ob oR g gb gr b r) {k : Nat} (hk : W.heap.size ≤ k) : both ob oR k = 0 := by
  by_cases h1 : both ob oR k = 0
  · exact h1
  · have := (h.lo k h1).2; omega
end
end Go.Proofs.Ytomfknblehkocaa.C
