/- The book closes a port. -/
import Derived.Test.YtomfknblehkocaaBT
namespace Go.Proofs.Ytomfknblehkocaa.C
open Go.RowKit Go.Proofs.YtomfknblehkocaaW.PrintWords Go.Proofs.YtomfknblehkocaaW.PrintLast
set_option linter.unusedVariables false
set_option linter.unusedSimpArgs false

def Bk.taken (b : Bk) (s : S34) (pend : List S45) : Bk := { b with copied := true, st := s, pend := pend }
def Bk.logged (b : Bk) (p : Nat) (xs : List S45) : Bk := { b with logs := b.logs.set p (b.logs.getD p [] ++ xs) }
def Bk.shutP (b : Bk) (p : Nat) : Bk := { b with ports := b.ports.set p 1 }
def Bk.close (b : Bk) (p : Nat) (ahead : List S45) (s : S34) (pend : List S45) : Bk :=
  let b1 := if b.mode ≠ 1 ∧ b.copied = false then b.taken s pend else b
  let b2 := if b.mode = 3 then b1.logged p ahead else b1
  let b3 := b2.shutP p
  if b.mode = 1 ∧ b.copied = false ∧ b3.shutB b.back = true then b3.taken s pend else b3
section
variable {w : World} {base : Nat} {own : Nat → Nat} {g : Nat} {b : Bk} {gp gl : Nat} {vc vd : Value} {lv : List Value}
theorem nums_set (l : List Int) (p : Nat) (x : Int) : nums .i64 (l.set p x) = (nums .i64 l).set p (.int .i64 x) := by simp [nums, List.map_set]
/-- What stands in the book's cells. -/
theorem BkAt.facts (h : BkAt w base own g b gp gl vc vd lv) : w.cell? ⟨g, 0, none⟩ = some (.int .i64 b.mode) ∧ w.cell? ⟨g, 1, none⟩ = some (.int .i64 b.back) ∧ w.cell? ⟨g, 2, none⟩ = some (.int .i64 b.now) ∧
    w.cell? ⟨g, 3, none⟩ = some (.slice (some ⟨gp, 0, none⟩) b.ports.length b.ports.length) ∧ w.cell? ⟨g, 4, none⟩ = some (.slice (some ⟨gl, 0, none⟩) b.ports.length b.ports.length) ∧
    w.cell? ⟨g, 5, none⟩ = some (.bool b.copied) ∧ w.cell? ⟨g, 6, none⟩ = some (.bool b.given) ∧ w.cell? ⟨g, 7, none⟩ = some (.int .i64 b.st.f0) ∧ w.cell? ⟨g, 8, none⟩ = some vc ∧ w.cell? ⟨g, 9, none⟩ = some vd :=
  ⟨blk_at h.hb 0 rfl, blk_at h.hb 1 rfl, blk_at h.hb 2 rfl, blk_at h.hb 3 rfl, blk_at h.hb 4 rfl, blk_at h.hb 5 rfl, blk_at h.hb 6 rfl, blk_at h.hb 7 rfl, blk_at h.hb 8 rfl, blk_at h.hb 9 rfl⟩
theorem BkAt.lts (h : BkAt w base own g b gp gl vc vd lv) : g < w.heap.size ∧ gp < w.heap.size ∧ gl < w.heap.size := ⟨(h.lo g (by have := h.og; omega)).2, (h.lo gp (by have := h.op; omega)).2, (h.lo gl (by have := h.ol; omega)).2⟩
theorem BkAt.log (h : BkAt w base own g b gp gl vc vd lv) (i : Nat) (hi : i < b.ports.length) : w.cell? ⟨gl, i, none⟩ = some (lv.getD i (.slice none 0 0)) := by
  refine blk_at h.hl i ?_
  have hi' : i < lv.length := by rw [h.ll]; exact hi
  simp [List.getElem?_eq_getElem hi', List.getD_eq_getElem?_getD]
theorem getD_set_ne {α : Type} (l : List α) (p i : Nat) (x z : α) (h : i ≠ p) : (l.set p x).getD i z = l.getD i z := by
  rw [List.getD_eq_getElem?_getD, List.getD_eq_getElem?_getD, List.getElem?_set_ne (by omega)]
theorem getD_set_eq {α : Type} (l : List α) (p : Nat) (x z : α) (h : p < l.length) : (l.set p x).getD p z = x := by
  rw [List.getD_eq_getElem?_getD, List.getElem?_set_self h]; rfl
/-- A log has grown. -/
theorem BkAt.logd (h : BkAt w base own g b gp gl vc vd lv) (p : Nat) (hp : p < b.ports.length) {W : World} {own' : Nat → Nat} {v1 : Value} {xs : List S45}
    (hsz : w.heap.size ≤ W.heap.size) (hs : ∀ k, k < w.heap.size → own' k = own k) (hm : ∀ k, k < w.heap.size → own k ≠ 6 + p → k ≠ gl → W.heap[k]? = w.heap[k]?)
    (hl : W.heap[gl]? = some (.cells (lv.set p v1).toArray 35 (0, 0))) (hr : Kd.R k45 45 W base (fun k => own' k = 6 + p) v1 (b.logs.getD p [] ++ xs))
    (hlo : ∀ k, w.heap.size ≤ k → own' k ≠ 0 → base ≤ k ∧ k < W.heap.size) : BkAt W base own' g (b.logged p xs) gp gl vc vd (lv.set p v1) := by
  obtain ⟨l1, l2, l3⟩ := h.lts
  refine ⟨(hm g l1 (by have := h.og; omega) h.ne_gl.symm).trans h.hb, (hm gp l2 (by have := h.op; omega) h.ne_pl).trans h.hp, hl, by rw [List.length_set]; exact h.ll, by unfold Bk.logged; simp only [List.length_set]; exact h.lb, h.lp, ?_, ?_, ?_, ?_, ?_, ?_, ?_⟩
  · intro i hi
    change i < b.ports.length at hi
    show Kd.R k45 45 W base _ _ ((b.logs.set p (b.logs.getD p [] ++ xs)).getD i [])
    by_cases hip : i = p
    · subst hip
      rw [getD_set_eq _ _ _ _ (by rw [h.ll]; exact hi), getD_set_eq _ _ _ _ (by rw [h.lb]; exact hi)]
      exact hr
    · rw [getD_set_ne _ _ _ _ _ hip, getD_set_ne _ _ _ _ _ hip]
      refine R_upd (h.rl i hi) hs (fun k hk ho => hm k hk (by omega) (fun e => ?_))
      have := h.ol
      rw [← e] at this
      omega
  · exact R_upd h.rc hs (fun k hk ho => hm k hk (by omega) (fun e => by have := h.ol; rw [← e] at this; omega))
  · exact R_upd h.rd hs (fun k hk ho => hm k hk (by omega) (fun e => by have := h.ol; rw [← e] at this; omega))
  · exact (hs g l1).trans h.og
  · exact (hs gp l2).trans h.op
  · exact (hs gl l3).trans h.ol
  · intro k ho
    by_cases hk : k < w.heap.size
    · rw [hs k hk] at ho
      exact ⟨(h.lo k ho).1, Nat.lt_of_lt_of_le hk hsz⟩
    · exact hlo k (by omega) ho
/-- A port's cell is written. -/
theorem BkAt.portd (h : BkAt w base own g b gp gl vc vd lv) (p : Nat) (hp : p < b.ports.length) : BkAt (w.setCell ⟨gp, p, none⟩ (.int .i64 1)) base own g (b.shutP p) gp gl vc vd lv := by
  have hm : ∀ k, k ≠ gp → (w.setCell ⟨gp, p, none⟩ (.int .i64 1)).heap[k]? = w.heap[k]? := fun k hk => Below.heap_setCell _ _ _ _ hk
  have hr : ∀ {α : Type} {d : Kd α} {e t : Nat} {v : Value} {xs : List α}, t ≠ 2 → d.R e w base (fun k => own k = t) v xs → d.R e (w.setCell ⟨gp, p, none⟩ (.int .i64 1)) base (fun k => own k = t) v xs := fun ht hR => R_upd hR (fun _ _ => rfl) (fun k hk ho => hm k (fun e => by have := h.op; rw [← e] at this; omega))
  refine ⟨?_, ?_, (hm gl h.ne_pl.symm).trans h.hl, ?_, ?_, ?_, ?_, hr (by omega) h.rc, hr (by omega) h.rd, h.og, h.op, h.ol, fun k hk => by simp only [World.size_setCell]; exact h.lo k hk⟩
  · have := (hm g h.ne_gp.symm).trans h.hb
    unfold Bk.shutP
    simp only [List.length_set]
    exact this
  · unfold Bk.shutP
    simp only [nums_set]
    exact blk_put h.hp p (.int .i64 1) (by simp)
  · unfold Bk.shutP; simp only [List.length_set]; exact h.ll
  · unfold Bk.shutP; simp only [List.length_set]; exact h.lb
  · unfold Bk.shutP; simp only [List.length_set]; exact h.lp
  · unfold Bk.shutP; simp only [List.length_set]
    exact fun i hi => hr (by omega) (h.rl i hi)
theorem BkAt.below (h : BkAt w base own g b gp gl vc vd lv) {W : World} (hb : Below w.heap.size w W) : BkAt W base own g b gp gl vc vd lv := by
  obtain ⟨l1, l2, l3⟩ := h.lts
  refine ⟨(hb.block g l1).trans h.hb, (hb.block gp l2).trans h.hp, (hb.block gl l3).trans h.hl, h.ll, h.lb, h.lp, fun i hi => Kd.R_below (h.rl i hi) hb, Kd.R_below h.rc hb, Kd.R_below h.rd hb, h.og, h.op, h.ol, fun k hk => ⟨(h.lo k hk).1, Nat.lt_of_lt_of_le (h.lo k hk).2 hb.size⟩⟩
/-- What is read stands aside of the book. -/
def Away {α : Type} (d : Kd α) (own : Nat → Nat) (w : World) (A : Option Addr) (xs : List α) : Prop := ∀ own' W', Upd own w own' W' → Kd.C d W' A xs.length xs
theorem Away.now {α : Type} {d : Kd α} {A : Option Addr} {xs : List α} (h : Away d own w A xs) : Kd.C d w A xs.length xs := h own w (Upd.refl _ _)
theorem Away.upd {α : Type} {d : Kd α} {A : Option Addr} {xs : List α} {own1 : Nat → Nat} {w1 : World} (h : Away d own w A xs) (u : Upd own w own1 w1) : Away d own1 w1 A xs := fun own' W' hu => h own' W' (u.trans hu)
theorem R_readsM {α : Type} {d : Kd α} {e B n c : Nat} {A : Option Addr} {xs : List α} (h : d.R e w B (fun _ => True) (.slice A n c) xs) (hb : base ≤ B) : ReadsRow (d.M w base (fun k => B ≤ k)) d.sz w A xs.length xs := by
  have h1 := Kd.R_bound h
  obtain ⟨A', c', he, hl, hr⟩ := OwnRow.reads (h1.2.imp_ (fun _ _ hp => d.M_lower hb (d.M_mono (fun k hk => hk.1.2.1) hp)))
  cases he
  exact hr
/-- What a log's append leaves behind. -/
structure Appd (w : World) (base : Nat) (own : Nat → Nat) (g : Nat) (b : Bk) (gp gl : Nat) (vc vd : Value) (lv : List Value) (p : Nat) (x : List S45) (w4 : World) (v1 : Value) : Prop where
  bk : BkAt (w4.setCell ⟨gl, p, none⟩ v1) base (tagged own w.heap.size w4.heap.size (6 + p)) g (b.logged p x) gp gl vc vd (lv.set p v1)
  upd : Upd own w (tagged own w.heap.size w4.heap.size (6 + p)) (w4.setCell ⟨gl, p, none⟩ v1)
  c4 : w4.cell? ⟨g, 4, none⟩ = some (.slice (some ⟨gl, 0, none⟩) b.ports.length b.ports.length)
  cl : w4.cell? ⟨gl, p, none⟩ = some (lv.getD p (.slice none 0 0))
  fl : w4.frozen? ⟨gl, p, none⟩ = false
theorem BkAt.appended (h : BkAt w base own g b gp gl vc vd lv) (hbase : base ≤ w.heap.size) (p : Nat) (hp : p < b.ports.length) {w3 w4 : World} (hb : Below w.heap.size w w3) {v v1 : Value} {x : List S45} (hv : lv.getD p (.slice none 0 0) = v)
    (hg : w3.grownBy w4 v.ownBlock) (hO : Kd.R k45 45 w4 base (fun k => own k = 6 + p ∨ w.heap.size ≤ k) v1 (b.logs.getD p [] ++ x)) : Appd w base own g b gp gl vc vd lv p x w4 v1 := by
  obtain ⟨l1, l2, l3⟩ := h.lts
  have hr := h.rl p hp
  rw [hv] at hr
  have s3 := hb.size
  have s4 := hg.size
  have hk : ∀ k, k < w.heap.size → own k ≠ 6 + p → w4.heap[k]? = w.heap[k]? := fun k hk ho =>
    (hg.block k (by omega) (fun e => ho (hr.1 k e.symm))).trans (hb.block k hk)
  have hl4 := (hk gl l3 (by have := h.ol; omega)).trans h.hl
  have hs : ∀ k, k < w.heap.size → tagged own w.heap.size w4.heap.size (6 + p) k = own k := fun k hk => tagged_old _ _ _ _ _ hk
  have hW : ∀ k, k ≠ gl → (w4.setCell ⟨gl, p, none⟩ v1).heap[k]? = w4.heap[k]? := fun k hk => Below.heap_setCell _ _ _ _ hk
  refine ⟨?_, ?_, ?_, ?_, ?_⟩
  · refine h.logd p hp (by simp only [World.size_setCell]; omega) hs (fun k h1 h2 h3 => (hW k h3).trans (hk k h1 h2)) ?_ ?_ ?_
    · exact blk_put hl4 p v1 (by simp)
    · refine Kd.R_mono (Kd.R_move (Kd.R_bound hO) (fun k hk => hW k (fun e => ?_))) (fun k hk => ?_)
      · subst e
        have := h.ol
        rcases hk.1 with h1 | h1
        · omega
        · omega
      · by_cases h1 : k < w.heap.size
        · rw [hs k h1]
          rcases hk.1 with h2 | h2
          · exact h2
          · omega
        · exact tagged_new _ _ _ _ _ (by omega) hk.2.2.1
    · intro k h1 h2
      simp only [World.size_setCell]
      refine ⟨by omega, ?_⟩
      by_cases h3 : k < w4.heap.size
      · exact h3
      · rw [tagged_out _ _ _ _ _ (by omega)] at h2
        have := (h.lo k h2).2
        omega
  · refine ⟨hg.os.trans hb.os, hg.tape.trans hb.tape, hg.output.trans hb.output, by simp only [World.size_setCell]; omega, fun k h1 h0 => (hs k h1).trans h0, fun k h1 h2 => ?_⟩
    exact (hW k (fun e => by have := h.ol; rw [← e] at this; omega)).trans (hk k h1 (by omega))
  · exact (World.cell?_of_block (hk g l1 (by have := h.og; omega))).trans h.facts.2.2.2.2.1
  · exact (World.cell?_of_block (hk gl l3 (by have := h.ol; omega))).trans (h.log p hp)
  · exact blk_frozen hl4 p
end
end Go.Proofs.Ytomfknblehkocaa.C
