/- The book's copy is made: take. -/
import Derived.Test.YtomfknblehkocaaBH
namespace Go.Proofs.Ytomfknblehkocaa.C
open Go.RowKit Go.Proofs.YtomfknblehkocaaW.PrintWords Go.Proofs.YtomfknblehkocaaW.PrintLast
set_option linter.unusedVariables false
set_option linter.unusedSimpArgs false

/-- The owner's tags when new blocks have come: those from B to C are t's. -/
def tagged (own : Nat → Nat) (B C t : Nat) : Nat → Nat := fun k => if B ≤ k ∧ k < C then t else own k
theorem tagged_old (own : Nat → Nat) (B C t k : Nat) (h : k < B) : tagged own B C t k = own k := by
  unfold tagged; rw [if_neg (by omega)]
theorem tagged_new (own : Nat → Nat) (B C t k : Nat) (h : B ≤ k) (h2 : k < C) : tagged own B C t k = t := by
  unfold tagged; rw [if_pos ⟨h, h2⟩]
theorem tagged_out (own : Nat → Nat) (B C t k : Nat) (h : C ≤ k) : tagged own B C t k = own k := by
  unfold tagged; rw [if_neg (by omega)]
theorem R_upd {α : Type} {d : Kd α} {e base t : Nat} {own own' : Nat → Nat} {w w' : World} {v : Value} {xs : List α} (h : d.R e w base (fun k => own k = t) v xs) (hs : ∀ k, k < w.heap.size → own' k = own k) (hm : ∀ k, k < w.heap.size → own k = t → w'.heap[k]? = w.heap[k]?) : d.R e w' base (fun k => own' k = t) v xs :=
  Kd.R_mono (Kd.R_move (Kd.R_bound h) (fun k hk => hm k hk.2.2.1 hk.1)) (fun k hk => (hs k hk.2.2.1).trans hk.1)
theorem R_into {α : Type} {d : Kd α} {e base B t : Nat} {own' : Nat → Nat} {w w' : World} {v : Value} {xs : List α} (h : d.R e w B (fun _ => True) v xs) (hB : base ≤ B) (ht : ∀ k, B ≤ k → k < w.heap.size → own' k = t) (hm : ∀ k, B ≤ k → k < w.heap.size → w'.heap[k]? = w.heap[k]?) : d.R e w' base (fun k => own' k = t) v xs :=
  Kd.R_lower (Kd.R_mono (Kd.R_move (Kd.R_bound h) (fun k hk => hm k hk.2.1 hk.2.2.1)) (fun k hk => ht k hk.2.1 hk.2.2.1)) hB
def BkI (w : World) (base : Nat) (own : Nat → Nat) (g : Nat) (b : Bk) : Prop := ∃ gp gl vc vd lv, BkAt w base own g b gp gl vc vd lv
/-- The book is b' now; nothing else that stood has turned. -/
def BkPost (base : Nat) (own : Nat → Nat) (g : Nat) (b' : Bk) (w w' : World) : Prop := ∃ own', BkI w' base own' g b' ∧ Upd own w own' w'
theorem Upd.set {own own' : Nat → Nat} {w w' : World} (h : Upd own w own' w') {p : Addr} (hp : own p.block ≠ 0) (u : Value) : Upd own w own' (w'.setCell p u) :=
  ⟨h.os, h.tape, h.output, by simpa [World.setCell] using h.size, h.same, fun k hk h0 => (Below.heap_setCell _ _ _ _ (fun hk2 => hp (hk2 ▸ h0))).trans (h.block k hk h0)⟩
theorem Upd.of_below {own own' : Nat → Nat} {w w' : World} (hb : Below w.heap.size w w') (hs : ∀ k, k < w.heap.size → own' k = own k) : Upd own w own' w' := ⟨hb.os, hb.tape, hb.output, hb.size, fun k hk h0 => (hs k hk).trans h0, fun k hk _ => hb.block k hk⟩
section
variable {w : World} {base : Nat} {own : Nat → Nat} {g : Nat} {b : Bk} {gp gl : Nat} {vc vd : Value} {lv : List Value}
theorem BkAt.ne_gp (h : BkAt w base own g b gp gl vc vd lv) : gp ≠ g := fun e => by have h1 := h.og; have h2 := h.op; rw [e] at h2; omega
theorem BkAt.ne_gl (h : BkAt w base own g b gp gl vc vd lv) : gl ≠ g := fun e => by have h1 := h.og; have h2 := h.ol; rw [e] at h2; omega
theorem BkAt.ne_pl (h : BkAt w base own g b gp gl vc vd lv) : gp ≠ gl := fun e => by have h1 := h.op; have h2 := h.ol; rw [e] at h1; omega
/-- The copy's parts, and whether it was made, are others now. -/
theorem BkAt.taken (h : BkAt w base own g b gp gl vc vd lv) {W : World} {own' : Nat → Nat} {b' : Bk} {vc' vd' : Value}
    (hsz : w.heap.size ≤ W.heap.size) (hs : ∀ k, k < w.heap.size → own' k = own k) (hm : ∀ k, k < w.heap.size → k ≠ g → W.heap[k]? = w.heap[k]?)
    (hb : W.heap[g]? = some (.cells #[.int .i64 b'.mode, .int .i64 b'.back, .int .i64 b'.now, .slice (some ⟨gp, 0, none⟩) b'.ports.length b'.ports.length, .slice (some ⟨gl, 0, none⟩) b'.ports.length b'.ports.length, .bool b'.copied, .bool b'.given, .int .i64 b'.st.f0, vc', vd'] 78 (0, 0)))
    (e1 : b'.ports = b.ports) (e2 : b'.logs = b.logs) (hc : Kd.R k104 104 W base (fun k => own' k = 4) vc' b'.st.f1) (hd : Kd.R k45 45 W base (fun k => own' k = 5) vd' b'.pend)
    (hlo : ∀ k, w.heap.size ≤ k → own' k ≠ 0 → base ≤ k ∧ k < W.heap.size) : BkAt W base own' g b' gp gl vc' vd' lv := by
  refine ⟨hb, ?_, ?_, by rw [e1]; exact h.ll, by rw [e1, e2]; exact h.lb, by rw [e1]; exact h.lp, ?_, hc, hd, ?_, ?_, ?_, ?_⟩
  · rw [e1]; exact (hm gp (h.lo gp (by have := h.op; omega)).2 h.ne_gp).trans h.hp
  · exact (hm gl (h.lo gl (by have := h.ol; omega)).2 h.ne_gl).trans h.hl
  · rw [e1, e2]
    intro i hi
    exact R_upd (h.rl i hi) hs (fun k hk ho => hm k hk (fun e => by have := h.og; rw [← e] at this; omega))
  · exact (hs g (h.lo g (by have := h.og; omega)).2).trans h.og
  · exact (hs gp (h.lo gp (by have := h.op; omega)).2).trans h.op
  · exact (hs gl (h.lo gl (by have := h.ol; omega)).2).trans h.ol
  · intro k ho
    by_cases hk : k < w.heap.size
    · rw [hs k hk] at ho
      exact ⟨(h.lo k ho).1, Nat.lt_of_lt_of_le hk hsz⟩
    · exact hlo k (by omega) ho
set_option maxRecDepth 100000 in
set_option maxHeartbeats 4000000 in
theorem take57 (h : BkAt w base own g b gp gl vc vd lv) (hbase : base ≤ w.heap.size) (s : S34) (As : Option Addr) (cs : Nat) (hC : Kd.C k104 w As s.f1.length s.f1) (hc : s.f1.length ≤ cs) (hp : partsC s.f1 ≤ 100000)
    (p : List S45) (Ap : Option Addr) (cp : Nat) (hCp : Kd.C k45 w Ap p.length p) (hcp : p.length ≤ cp) (hpp : partsRs p ≤ 100000) :
    Calls Try.prog 57 #[.pointer (some ⟨g, 0, none⟩), .agg #[.int .i64 s.f0, .slice As s.f1.length cs], .slice Ap p.length cp] w fun e w' => e = .returned (.tuple #[]) ∧ BkPost base own g { b with copied := true, st := s, pend := p } w w' := by
  have H := Lib.hid h
  have HY := Lib.hid (ownState68 s As cs (w.alloc (.cells #[.int .i64 s.f0, .slice As s.f1.length cs] 34)) (Kd.C_alloc hC _) hc hp)
  have HZ : Hid (∀ W : World, PLift (Below w.heap.size w W) → Calls Try.prog 58 #[.slice Ap p.length cp] W fun e w' => ∃ v, e = .returned v ∧ Hid (Kd.R k45 45 w' W.heap.size (fun _ => True) v p) ∧ Hid (Below W.heap.size W w')) := fun W hW => ownRecords58 p Ap cp W (Kd.C_below hCp hW.down) hcp hpp
  have Hbase := Lib.hid hbase
  have HG := Lib.hid h.hb
  have Hg : g < w.heap.size := (h.lo g (by have := h.og; omega)).2
  clear h hC hc hp hCp hcp hpp
  go_enter Try.func57, Try.ntmps57
  go_wp2_with (first
    | (go_at_call 68; refine HY.out.mono ?_; rintro e w1 ⟨v, rfl, hv, hb⟩
       obtain ⟨Av, cv, rfl⟩ := Kd.R_slice hv.out
       have HB1 : Hid (Below w.heap.size w w1) := ((Below.refl _ _).alloc (Nat.le_refl _) _).trans (hb.out.mono (by simp only [World.size_alloc]; omega)))
    | (go_at_call 58; refine (HZ.out _ ⟨HB1.out⟩).mono ?_; rintro e w2 ⟨u, rfl, hu, hb2⟩
       obtain ⟨Au, cu, rfl⟩ := Kd.R_slice hu.out
       have HB2 : Hid (Below w.heap.size w w2) := HB1.out.trans (hb2.out.mono HB1.out.size)
       have G2 : Hid (w2.heap[g]? = _) := (HB2.out.block g Hg).trans HG.out
       have f5 : w2.frozen? ⟨g, 5, none⟩ = false := blk_frozen G2.out 5
       have f7 : w2.frozen? ⟨g, 7, none⟩ = false := blk_frozen G2.out 7
       have f8 : w2.frozen? ⟨g, 8, none⟩ = false := blk_frozen G2.out 8
       have f9 : w2.frozen? ⟨g, 9, none⟩ = false := blk_frozen G2.out 9
       have c5 : w2.cell? ⟨g, 5, none⟩ = some (.bool b.copied) := blk_at G2.out 5 rfl
       have c7 : w2.cell? ⟨g, 7, none⟩ = some (.int .i64 b.st.f0) := blk_at G2.out 7 rfl
       have c8 : w2.cell? ⟨g, 8, none⟩ = some vc := blk_at G2.out 8 rfl
       have c9 : w2.cell? ⟨g, 9, none⟩ = some vd := blk_at G2.out 9 rfl))
  go_end0
  refine ⟨rfl, tagged (tagged own w.heap.size w1.heap.size 4) w1.heap.size w2.heap.size 5, ⟨gp, gl, .slice Av s.f1.length cv, .slice Au p.length cu, lv, ?_⟩, ?_⟩
  · have s1 := HB1.out.size
    have s2 := hb2.out.size
    have hW : ∀ k, k ≠ g → ((((w2.setCell ⟨g, 5, none⟩ (.bool true)).setCell ⟨g, 7, none⟩ (.int .i64 s.f0)).setCell ⟨g, 8, none⟩ (.slice Av s.f1.length cv)).setCell ⟨g, 9, none⟩ (.slice Au p.length cu)).heap[k]? = w2.heap[k]? := fun k hk => by
      rw [Below.heap_setCell _ _ _ _ hk, Below.heap_setCell _ _ _ _ hk, Below.heap_setCell _ _ _ _ hk, Below.heap_setCell _ _ _ _ hk]
    have hs : ∀ k, k < w.heap.size → tagged (tagged own w.heap.size w1.heap.size 4) w1.heap.size w2.heap.size 5 k = own k := fun k hk => by
      rw [tagged_old _ _ _ _ _ (by omega), tagged_old _ _ _ _ _ hk]
    refine H.out.taken (by simp only [World.size_setCell]; exact HB2.out.size) hs (fun k hk hn => (hW k hn).trans (HB2.out.block k hk)) ?_ rfl rfl ?_ ?_ ?_
    · refine blk_put (blk_put (blk_put (blk_put G2.out 5 _ rfl) 7 _ rfl) 8 _ rfl) 9 _ rfl
    · refine R_into (w := w1) hv.out (by simp only [World.size_alloc]; have := Hbase.out; omega) (fun k h1 h2 => ?_) (fun k h1 h2 => ?_)
      · simp only [World.size_alloc] at h1
        rw [tagged_old _ _ _ _ _ h2, tagged_new _ _ _ _ _ (by omega) h2]
      · simp only [World.size_alloc] at h1
        exact (hW k (by omega)).trans (hb2.out.block k h2)
    · refine R_into (w := w2) hu.out (by have := Hbase.out; omega) (fun k h1 h2 => ?_) (fun k h1 h2 => ?_)
      · rw [tagged_new _ _ _ _ _ h1 h2]
      · exact hW k (by omega)
    · intro k hk h0
      simp only [World.size_setCell]
      refine ⟨by have := Hbase.out; omega, ?_⟩
      by_cases h2 : k < w2.heap.size
      · exact h2
      · rw [tagged_out _ _ _ _ _ (by omega), tagged_out _ _ _ _ _ (by omega)] at h0
        exact (by have := (H.out.lo k h0).2; omega)
  · have hg0 : own g ≠ 0 := by have := H.out.og; omega
    refine ((((Upd.of_below HB2.out ?_).set hg0 _).set hg0 _).set hg0 _).set hg0 _
    intro k hk
    rw [tagged_old _ _ _ _ _ (Nat.lt_of_lt_of_le hk HB1.out.size), tagged_old _ _ _ _ _ hk]
end
end Go.Proofs.Ytomfknblehkocaa.C
