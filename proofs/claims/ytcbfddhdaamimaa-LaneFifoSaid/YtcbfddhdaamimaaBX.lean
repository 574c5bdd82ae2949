/- Texts BK BO BP BI in one. -/
import Derived.Test.YtcbfddhdaamimaaWP
namespace Go.Proofs.Ytcbfddhdaamimaa.PLaneFifo
open Go.RowKit Go.Conc Go.Proofs.YtcbfddhdaamimaaW.PrintWords Go.Proofs.YtcbfddhdaamimaaW.PrintLast
set_option linter.unusedVariables false
set_option linter.unusedSimpArgs false

abbrev Pq := S33 × List Value
/-- The book at the block b (tag 2): its records in a row with the tag 3, its marks in a row with the tag 4. -/
structure BookAt (own : Nat → Nat) (w : World) (b : Nat) (q : List Pq) (ms : List Int) (oR oM : Nat) (Ar : Option Addr) (cr : Nat) (Am : Option Addr) (cm : Nat) : Prop where
  hb : w.heap[b]? = some (.cells #[.slice Ar q.length cr, .slice Am ms.length cm, .int .i64 oR, .int .i64 oM] 57 (0, 0))
  ob : own b = 2
  hR : (pk k33 own w).R 33 w 0 (fun k => own k = 3) (.slice Ar q.length cr) q
  hM : (Kd.int .i64).R 3 w 0 (fun k => own k = 4) (.slice Am ms.length cm) ms
theorem R_upd {α : Type} {d : Kd α} {e n : Nat} {own own' : Nat → Nat} {w w' : World} {v : Value} {xs : List α} {S : Nat → Prop} (h : d.R e w 0 (fun k => own k = n) v xs) (hn : ¬ S n) (hu : Upd S own w own' w') : d.R e w' 0 (fun k => own' k = n) v xs :=
  Kd.R_mono (Kd.R_move (Kd.R_bound h) (fun k hk => hu.block k hk.2.2.1 (by rw [hk.1]; exact hn))) (fun k hk => (hu.same k hk.2.2.1 (by rw [hk.1]; exact hn)).trans hk.1)
section
variable {own own' : Nat → Nat} {w w' : World} {b : Nat} {q : List Pq} {ms : List Int} {oR oM : Nat} {Ar Am : Option Addr} {cr cm : Nat} {S : Nat → Prop}
theorem BookAt.upd (h : BookAt own w b q ms oR oM Ar cr Am cm) (h0 : ¬ S 0) (h2 : ¬ S 2) (h3 : ¬ S 3) (h4 : ¬ S 4) (hu : Upd S own w own' w') : BookAt own' w' b q ms oR oM Ar cr Am cm where
  hb := hu.blk h.hb (by rw [h.ob]; exact h2)
  ob := (hu.same b (blk_lt h.hb) (by rw [h.ob]; exact h2)).trans h.ob
  hR := pk_R (R_upd h.hR h3 hu) h0 hu
  hM := R_upd h.hM h4 hu
theorem BookAt.ne (h : BookAt own w b q ms oR oM Ar cr Am cm) : (∀ k, (Value.slice Ar q.length cr).ownBlock = some k → own k = 3) ∧ (∀ k, (Value.slice Am ms.length cm).ownBlock = some k → own k = 4) ∧ some b ≠ (Value.slice Ar q.length cr).ownBlock ∧ some b ≠ (Value.slice Am ms.length cm).ownBlock :=
  ⟨h.hR.1, h.hM.1, fun e => (by have h1 : own b = 3 := h.hR.1 b e.symm; rw [h.ob] at h1; cases h1), fun e => (by have h1 : own b = 4 := h.hM.1 b e.symm; rw [h.ob] at h1; cases h1)⟩
/-- A store into the book. -/
theorem Upd.book (h : own b = 2) (p : Nat) (u : Value) : Upd (2 ≤ ·) own w own (w.setCell ⟨b, p, none⟩ u) := Upd.set (p := ⟨b, p, none⟩) (by show 2 ≤ own b; rw [h]; decide) u
theorem R_book {α : Type} {d : Kd α} {e n : Nat} {v : Value} {xs : List α} (h : d.R e w 0 (fun k => own k = n) v xs) (hb : own b = 2) (hn : n ≠ 2) (p : Nat) (u : Value) : d.R e (w.setCell ⟨b, p, none⟩ u) 0 (fun k => own k = n) v xs :=
  Kd.R_mono (Kd.R_move (Kd.R_bound h) (fun k hk => Below.heap_setCell _ _ _ _ (fun e => by subst e; have := hk.1; rw [hb] at this; exact hn this.symm))) (fun k hk => hk.1)
theorem BookAt.outR (h : BookAt own w b q ms oR oM Ar cr Am cm) (n : Nat) : BookAt own (w.setCell ⟨b, 2, none⟩ (.int .i64 n)) b q ms n oM Ar cr Am cm where
  hb := blk_put h.hb 2 _ rfl
  ob := h.ob
  hR := pk_R (R_book h.hR h.ob (by decide) _ _) (S := (2 ≤ ·)) (by decide) (Upd.book h.ob _ _)
  hM := R_book h.hM h.ob (by decide) _ _
theorem BookAt.outM (h : BookAt own w b q ms oR oM Ar cr Am cm) (n : Nat) : BookAt own (w.setCell ⟨b, 3, none⟩ (.int .i64 n)) b q ms oR n Ar cr Am cm where
  hb := blk_put h.hb 3 _ rfl
  ob := h.ob
  hR := pk_R (R_book h.hR h.ob (by decide) _ _) (S := (2 ≤ ·)) (by decide) (Upd.book h.ob _ _)
  hM := R_book h.hM h.ob (by decide) _ _
end
theorem Upd.grown {S : Nat → Prop} {own own' : Nat → Nat} {w W w1 : World} {row : Option Nat} (hB : Below w.heap.size w W) (ho : ∀ k, k < w.heap.size → own' k = own k) (hg : W.grownBy w1 row) (hv : ∀ k, row = some k → S (own k)) : Upd S own w own' w1 :=
  ⟨hg.os.trans hB.os, hg.tape.trans hB.tape, hg.output.trans hB.output, Nat.le_trans hB.size hg.size, fun k hk _ => ho k hk,
    fun k hk hn => (hg.block k (Nat.lt_of_lt_of_le hk hB.size) (fun e => hn (hv k e.symm))).trans (hB.block k hk)⟩
section
variable {own own' : Nat → Nat} {w W w1 : World} {b : Nat} {q : List Pq} {ms : List Int} {oR oM : Nat} {Ar Am A1 : Option Addr} {cr cm c1 : Nat}
/-- A record went in. -/
theorem BookAt.addR (h : BookAt own w b q ms oR oM Ar cr Am cm) (hB : Below w.heap.size w W) (hg : W.grownBy w1 (Value.slice Ar q.length cr).ownBlock) (p : Pq)
    (hR : (pk k33 own w).R 33 w1 0 (fun k => fresh own w 3 k = 3) (.slice A1 (q.length + 1) c1) (q ++ [p])) :
    BookAt (fresh own w 3) (w1.setCell ⟨b, 0, none⟩ (.slice A1 (q.length + 1) c1)) b (q ++ [p]) ms oR oM A1 c1 Am cm ∧ Upd (2 ≤ ·) own w (fresh own w 3) (w1.setCell ⟨b, 0, none⟩ (.slice A1 (q.length + 1) c1)) := by
  have hu : Upd (2 ≤ ·) own w (fresh own w 3) w1 := Upd.grown hB (fun k hk => fresh_old hk) hg (fun k hk => by rw [h.ne.1 k hk]; decide)
  have hob : fresh own w 3 b = 2 := (fresh_old (blk_lt h.hb)).trans h.ob
  have hu2 := hu.then (Upd.book (w := w1) hob 0 (.slice A1 (q.length + 1) c1))
  have hb1 := blk_grown ((hB.block b (blk_lt h.hb)).trans h.hb) hg h.ne.2.2.1
  have hM1 : (Kd.int .i64).R 3 w1 0 (fun k => fresh own w 3 k = 4) (.slice Am ms.length cm) ms :=
    Kd.R_mono (Kd.R_move (Kd.R_bound h.hM) (fun k hk => (hg.block k (Nat.lt_of_lt_of_le hk.2.2.1 hB.size) (fun e => by have := h.ne.1 k e.symm; rw [hk.1] at this; cases this)).trans (hB.block k hk.2.2.1))) (fun k hk => (fresh_old hk.2.2.1).trans hk.1)
  refine ⟨⟨?_, hob, ?_, R_book hM1 hob (by decide) _ _⟩, hu2⟩
  · have := blk_put hb1 0 (.slice A1 (q.length + 1) c1) rfl
    rw [List.length_append]
    exact this
  · have := pk_R (R_book hR hob (by decide) 0 (.slice A1 (q.length + 1) c1)) (S := (2 ≤ ·)) (by decide) hu2
    rw [List.length_append]
    exact this
/-- A mark went in. -/
theorem BookAt.addM (h : BookAt own w b q ms oR oM Ar cr Am cm) (hB : Below w.heap.size w W) (hg : W.grownBy w1 (Value.slice Am ms.length cm).ownBlock) (x : Int)
    (hM : (Kd.int .i64).R 3 w1 0 (fun k => fresh own w 4 k = 4) (.slice A1 (ms.length + 1) c1) (ms ++ [x])) :
    BookAt (fresh own w 4) (w1.setCell ⟨b, 1, none⟩ (.slice A1 (ms.length + 1) c1)) b q (ms ++ [x]) oR oM Ar cr A1 c1 ∧ Upd (2 ≤ ·) own w (fresh own w 4) (w1.setCell ⟨b, 1, none⟩ (.slice A1 (ms.length + 1) c1)) := by
  have hu : Upd (2 ≤ ·) own w (fresh own w 4) w1 := Upd.grown hB (fun k hk => fresh_old hk) hg (fun k hk => by rw [h.ne.2.1 k hk]; decide)
  have hob : fresh own w 4 b = 2 := (fresh_old (blk_lt h.hb)).trans h.ob
  have hu2 := hu.then (Upd.book (w := w1) hob 1 (.slice A1 (ms.length + 1) c1))
  have hb1 := blk_grown ((hB.block b (blk_lt h.hb)).trans h.hb) hg h.ne.2.2.2
  have hR1 : (pk k33 own w).R 33 w1 0 (fun k => fresh own w 4 k = 3) (.slice Ar q.length cr) q :=
    Kd.R_mono (Kd.R_move (Kd.R_bound h.hR) (fun k hk => (hg.block k (Nat.lt_of_lt_of_le hk.2.2.1 hB.size) (fun e => by have := h.ne.2.1 k e.symm; rw [hk.1] at this; cases this)).trans (hB.block k hk.2.2.1))) (fun k hk => (fresh_old hk.2.2.1).trans hk.1)
  refine ⟨⟨?_, hob, pk_R (R_book hR1 hob (by decide) _ _) (S := (2 ≤ ·)) (by decide) hu2, ?_⟩, hu2⟩
  · have := blk_put hb1 1 (.slice A1 (ms.length + 1) c1) rfl
    rw [List.length_append]
    exact this
  · have := R_book hM hob (by decide) 1 (.slice A1 (ms.length + 1) c1)
    rw [List.length_append]
    exact this
end
set_option maxRecDepth 100000 in
set_option maxHeartbeats 4000000 in
theorem held33 (own : Nat → Nat) (w : World) (b : Nat) (q : List Pq) (ms : List Int) (oR oM : Nat) (Ar Am : Option Addr) (cr cm : Nat) (h : BookAt own w b q ms oR oM Ar cr Am cm) (hq : q.length ≤ 10000) (ho : oR ≤ q.length) :
    Calls Try.prog 33 #[.pointer (some ⟨b, 0, none⟩)] w fun e w' => e = .returned (.int .i64 ((q.length - oR : Nat) : Int)) ∧ Hid (Below w.heap.size w w') := by
  have q0 : w.cell? ⟨b, 0, none⟩ = some (.slice Ar q.length cr) := blk_at h.hb 0 rfl
  have q2 : w.cell? ⟨b, 2, none⟩ = some (.int .i64 oR) := blk_at h.hb 2 rfl
  clear h
  generalize q.length = n at *
  have hs : ((n : Nat) : Int) - (oR : Int) = ((n - oR : Nat) : Int) := by omega
  go_enter Try.func33, Try.ntmps33
  go_wp2_with (fail)
  go_quiet (fail)
  go_wp2_with (fail)
  go_ret
  exact ⟨by rw [← hs]; rfl, Lib.hid (pw_below_drewN (Below.refl _ _) _)⟩
end Go.Proofs.Ytcbfddhdaamimaa.PLaneFifo
namespace Go.Proofs.Ytcbfddhdaamimaa.PLaneFifo
open Go.RowKit Go.Conc Go.Proofs.YtcbfddhdaamimaaW.PrintWords Go.Proofs.YtcbfddhdaamimaaW.PrintLast
set_option linter.unusedVariables false
set_option linter.unusedSimpArgs false

theorem St33_open {own : Nat → Nat} {w : World} {x : S33} {A5 : Option Addr} {c5 : Nat} {A6 : Option Addr} {c6 : Nat} (h : St k33 own w x [.string x.f0, .int .i64 x.f1.f0, .int .i64 x.f1.f1, .string x.f1.f2, .slice A5 x.f1.f3.length c5, .slice A6 x.f2.length c6]) : x.f1.f3.length ≤ c5 ∧ StC k30 own w A5 x.f1.f3.length x.f1.f3 ∧ x.f2.length ≤ c6 ∧ StC (Kd.int .i64) own w A6 x.f2.length x.f2 := by
  have key : ∀ w2, k33.K w2 x [.string x.f0, .int .i64 x.f1.f0, .int .i64 x.f1.f1, .string x.f1.f2, .slice A5 x.f1.f3.length c5, .slice A6 x.f2.length c6] → x.f1.f3.length ≤ c5 ∧ k30.C w2 A5 x.f1.f3.length x.f1.f3 ∧ x.f2.length ≤ c6 ∧ (Kd.int .i64).C w2 A6 x.f2.length x.f2 := by
    intro w2 hK
    obtain ⟨a, b, c, d, he, h1, h2, h3, h4⟩ := k33_open hK
    simp only [List.cons.injEq, Value.slice.injEq, true_and, and_true] at he
    obtain ⟨⟨rfl, rfl⟩, rfl, rfl⟩ := he
    exact ⟨h1, h2, h3, h4⟩
  exact ⟨(key w h.now).1, fun S o2 w2 hS hu => (key w2 (h S o2 w2 hS hu)).2.1, (key w h.now).2.2.1, fun S o2 w2 hS hu => (key w2 (h S o2 w2 hS hu)).2.2.2⟩
theorem at_pk33 {own : Nat → Nat} {w0 w : World} {A : Option Addr} {n : Nat} {l : List Pq} (h : (pk k33 own w0).C w A n l) (k : Nat) (hk : k < l.length) : ∃ ad x F4 g4 F5 g5, A = some ad ∧ l[k].1 = x ∧ St k33 own w0 x [.string x.f0, .int .i64 x.f1.f0, .int .i64 x.f1.f1, .string x.f1.f2, .slice F4 x.f1.f3.length g4, .slice F5 x.f2.length g5] ∧ w.cell? (ad.add (k * 6)) = some (.string x.f0) ∧ w.cell? ⟨(ad.add (k * 6)).block, (ad.add (k * 6)).off + 1, none⟩ = some (.int .i64 x.f1.f0) ∧ w.cell? ⟨(ad.add (k * 6)).block, (ad.add (k * 6)).off + 2, none⟩ = some (.int .i64 x.f1.f1) ∧ w.cell? ⟨(ad.add (k * 6)).block, (ad.add (k * 6)).off + 3, none⟩ = some (.string x.f1.f2) ∧ w.cell? ⟨(ad.add (k * 6)).block, (ad.add (k * 6)).off + 4, none⟩ = some (.slice F4 x.f1.f3.length g4) ∧ w.cell? ⟨(ad.add (k * 6)).block, (ad.add (k * 6)).off + 5, none⟩ = some (.slice F5 x.f2.length g5) := by
  obtain ⟨ad, c, e, hlen, hK, hc0⟩ := Kd.C_get h (z33, []) (k : Int) (by omega) (by have := Kd.C_len h; omega)
  rw [Int.toNat_natCast] at hK hc0
  rw [List.getD_eq_getElem?_getD, List.getElem?_eq_getElem hk, Option.getD_some] at hK
  obtain ⟨h1, h2⟩ := hK
  obtain ⟨A5, c5, A6, c6, hcs, -⟩ := k33_open h2.now
  have hc : ∀ j u, c[j]? = some u → w.cell? (ad.add (k * 6 + j)) = some u := hc0
  generalize hp : l[k] = p at *
  obtain ⟨x, cs⟩ := p
  simp only [] at h1 h2 hcs
  subst h1
  subst hcs
  exact ⟨ad, x, A5, c5, A6, c6, e, rfl, h2, hc 0 _ rfl, by rw [← add_field _ _ 1 (by omega)]; exact hc 1 _ rfl, by rw [← add_field _ _ 2 (by omega)]; exact hc 2 _ rfl, by rw [← add_field _ _ 3 (by omega)]; exact hc 3 _ rfl, by rw [← add_field _ _ 4 (by omega)]; exact hc 4 _ rfl, by rw [← add_field _ _ 5 (by omega)]; exact hc 5 _ rfl⟩
set_option maxRecDepth 100000 in
set_option maxHeartbeats 8000000 in
/-- A record. -/
theorem out22_r (own : Nat → Nat) (w : World) (b : Nat) (q : List Pq) (ms : List Int) (oR oM : Nat) (Ar Am : Option Addr) (cr cm : Nat) (h : BookAt own w b q ms oR oM Ar cr Am cm) (hq9 : q.length ≤ 10000) (hm9 : ms.length ≤ 10000) (x : S35) (D5 : Option Addr) (e5' : Nat) (D6 : Option Addr) (e6' : Nat) (hx : St k35 own w x [.int .i64 x.f0, .string x.f1.f0, .int .i64 x.f1.f1.f0, .int .i64 x.f1.f1.f1, .string x.f1.f1.f2, .slice D5 x.f1.f1.f3.length e5', .slice D6 x.f1.f2.length e6']) (h0 : x.f0 = 0) (hoq : oR < q.length) (hqx : q[oR].1 = x.f1) (hp : partsR x.f1 ≤ 100000) :
    Calls Try.prog 22 #[.pointer (some ⟨b, 0, none⟩), .agg #[.int .i64 x.f0, .string x.f1.f0, .int .i64 x.f1.f1.f0, .int .i64 x.f1.f1.f1, .string x.f1.f1.f2, .slice D5 x.f1.f1.f3.length e5', .slice D6 x.f1.f2.length e6']] w fun e w' => e = .returned (.bool true) ∧ Hid (BookAt own w' b q ms (oR + 1) oM Ar cr Am cm) ∧ Hid (Upd (2 ≤ ·) own w own w') := by
  have HX := Lib.hid hx
  have HP := Lib.hid hp
  have HBK := Lib.hid (h.upd (S := fun _ => False) (by decide) (by decide) (by decide) (by decide) (Upd.box (.cells #[.int .i64 x.f0, .string x.f1.f0, .int .i64 x.f1.f1.f0, .int .i64 x.f1.f1.f1, .string x.f1.f1.f2, .slice D5 x.f1.f1.f3.length e5', .slice D6 x.f1.f2.length e6'] 35)))
  have HU1 : Hid (Upd (2 ≤ ·) own w own (w.alloc (.cells #[.int .i64 x.f0, .string x.f1.f0, .int .i64 x.f1.f1.f0, .int .i64 x.f1.f1.f1, .string x.f1.f1.f2, .slice D5 x.f1.f1.f3.length e5', .slice D6 x.f1.f2.length e6'] 35))) := Lib.hid (Upd.box _)
  have HE0 := Lib.hid (blk_new w (.cells #[.int .i64 x.f0, .string x.f1.f0, .int .i64 x.f1.f1.f0, .int .i64 x.f1.f1.f1, .string x.f1.f1.f2, .slice D5 x.f1.f1.f3.length e5', .slice D6 x.f1.f2.length e6'] 35))
  have H0 := Lib.hid h0
  clear hx hp h h0
  go_enter Try.func22, Try.ntmps22
  go_upto_region 1 with (fail)
  generalize w.alloc (.cells #[.int .i64 x.f0, .string x.f1.f0, .int .i64 x.f1.f1.f0, .int .i64 x.f1.f1.f1, .string x.f1.f1.f2, .slice D5 x.f1.f1.f3.length e5', .slice D6 x.f1.f2.length e6'] 35) = w1 at *
  generalize w.heap.size = bx at *
  have HE : Hid (w1.heap[bx]? = some (.cells #[.int .i64 0, .string x.f1.f0, .int .i64 x.f1.f1.f0, .int .i64 x.f1.f1.f1, .string x.f1.f1.f2, .slice D5 x.f1.f1.f3.length e5', .slice D6 x.f1.f2.length e6'] 35 (0, 0))) := Lib.hid (by have := HE0.out; rw [H0.out] at this; exact this)
  clear HE0
  have y0 : w1.cell? ⟨bx, 0, none⟩ = some (.int .i64 0) := blk_at HE.out 0 rfl
  have q2 : w1.cell? ⟨b, 2, none⟩ = some (.int .i64 oR) := blk_at HBK.out.hb 2 rfl
  have z2 : w1.frozen? ⟨b, 2, none⟩ = false := blk_frozen HBK.out.hb 2
  have hbx : b ≠ bx := blk_ne HBK.out.hb HE.out (by decide)
  go_upto_region 5 with (fail)
  obtain ⟨o1, ho1⟩ : ∃ o1, o1 = oR + 1 := ⟨_, rfl⟩
  have hs1 : (oR : Int) + 1 = (o1 : Int) := by omega
  try rw [hs1]
  have HB2 := Lib.hid (HBK.out.outR o1)
  have HU2 := Lib.hid (HU1.out.then (Upd.book (w := w1) HBK.out.ob 2 (.int .i64 o1)))
  have HX2 := Lib.hid (HX.out.upd (S := (2 ≤ ·)) (by decide) HU2.out)
  have HE2 : Hid ((w1.setCell ⟨b, 2, none⟩ (.int .i64 o1)).heap[bx]? = some (.cells #[.int .i64 0, .string x.f1.f0, .int .i64 x.f1.f1.f0, .int .i64 x.f1.f1.f1, .string x.f1.f1.f2, .slice D5 x.f1.f1.f3.length e5', .slice D6 x.f1.f2.length e6'] 35 (0, 0))) := Lib.hid ((Below.heap_setCell _ _ _ _ (Ne.symm hbx)).trans HE.out)
  generalize w1.setCell ⟨b, 2, none⟩ (.int .i64 o1) = w2 at *
  obtain ⟨adr, x', F4, g4, F5, g5, rfl, hx', hsx', b0, b1, b2, b3, b4, b5⟩ := at_pk33 (Kd.R_reads' HB2.out.hR).2.2 oR hoq
  rw [hqx] at hx'
  rw [← hx'] at hsx' b0 b1 b2 b3 b4 b5
  obtain ⟨t1, t2, t3, t4⟩ := St35_open HX2.out
  obtain ⟨u1, u2, u3, u4⟩ := St33_open hsx'
  have HSAME : Hid (∀ W : World, PLift (Below w2.heap.size w2 W) → Calls Try.prog 13 #[.agg #[.string x.f1.f0, .int .i64 x.f1.f1.f0, .int .i64 x.f1.f1.f1, .string x.f1.f1.f2, .slice F4 x.f1.f1.f3.length g4, .slice F5 x.f1.f2.length g5], .agg #[.string x.f1.f0, .int .i64 x.f1.f1.f0, .int .i64 x.f1.f1.f1, .string x.f1.f1.f2, .slice D5 x.f1.f1.f3.length e5', .slice D6 x.f1.f2.length e6']] W fun e w' => e = .returned (.bool true) ∧ Hid (Below W.heap.size W w')) := Lib.hid (fun W hW => same13 x.f1 F4 F5 D5 D6 g4 g5 e5' e6' W (Kd.C_below u2.now hW.down) u1 (Kd.C_below u4.now hW.down) u3 (Kd.C_below t2.now hW.down) t1 (Kd.C_below t4.now hW.down) t3 HP.out)
  have v0 : w2.cell? ⟨b, 0, none⟩ = some (.slice (some adr) q.length cr) := blk_at HB2.out.hb 0 rfl
  have v2 : w2.cell? ⟨b, 2, none⟩ = some (.int .i64 o1) := blk_at HB2.out.hb 2 rfl
  have x0 : w2.cell? ⟨bx, 0, none⟩ = some (.int .i64 0) := blk_at HE2.out 0 rfl
  have x1 : w2.cell? ⟨bx, 1, none⟩ = some (.string x.f1.f0) := blk_at HE2.out 1 rfl
  have x2 : w2.cell? ⟨bx, 2, none⟩ = some (.int .i64 x.f1.f1.f0) := blk_at HE2.out 2 rfl
  have x3 : w2.cell? ⟨bx, 3, none⟩ = some (.int .i64 x.f1.f1.f1) := blk_at HE2.out 3 rfl
  have x4 : w2.cell? ⟨bx, 4, none⟩ = some (.string x.f1.f1.f2) := blk_at HE2.out 4 rfl
  have x5 : w2.cell? ⟨bx, 5, none⟩ = some (.slice D5 x.f1.f1.f3.length e5') := blk_at HE2.out 5 rfl
  have x6 : w2.cell? ⟨bx, 6, none⟩ = some (.slice D6 x.f1.f2.length e6') := blk_at HE2.out 6 rfl
  clear hx' hsx' t1 t2 t3 t4 u1 u2 u3 u4 hqx HBK HX HX2 HU1 HE HE2 q2 z2 y0
  have hik : (o1 : Int) - 1 = (oR : Int) := by omega
  have hwk : IntKind.i64.wrap (oR : Int) = (oR : Int) := by rw [IntKind.wrap_i64]; omega
  obtain ⟨n, hn⟩ : ∃ n, n = q.length := ⟨_, rfl⟩
  rw [← hn] at v0 hoq hq9
  have k5 : decide ((o1 : Int) ≤ (n : Int)) = true := decide_eq_true (by omega)
  have Ho1 := Lib.hid ho1
  have hmore : o1 ≤ 10000 := by omega
  have hk5 : o1 ≤ n := by omega
  clear ho1 hs1 hn
  refine start_ (n := 32) (S := (fun w' => w'.cell? ⟨b, 0, none⟩ = some (.slice (some adr) n cr) ∧ w'.cell? ⟨b, 2, none⟩ = some (.int .i64 o1) ∧ w'.cell? ⟨bx, 0, none⟩ = some (.int .i64 0) ∧ w'.cell? ⟨bx, 1, none⟩ = some (.string x.f1.f0) ∧ w'.cell? ⟨bx, 2, none⟩ = some (.int .i64 x.f1.f1.f0) ∧ w'.cell? ⟨bx, 3, none⟩ = some (.int .i64 x.f1.f1.f1) ∧ w'.cell? ⟨bx, 4, none⟩ = some (.string x.f1.f1.f2) ∧ w'.cell? ⟨bx, 5, none⟩ = some (.slice D5 x.f1.f1.f3.length e5') ∧ w'.cell? ⟨bx, 6, none⟩ = some (.slice D6 x.f1.f2.length e6') ∧ w'.cell? (adr.add (oR * 6)) = some (.string x.f1.f0) ∧ w'.cell? ⟨(adr.add (oR * 6)).block, (adr.add (oR * 6)).off + 1, none⟩ = some (.int .i64 x.f1.f1.f0) ∧ w'.cell? ⟨(adr.add (oR * 6)).block, (adr.add (oR * 6)).off + 2, none⟩ = some (.int .i64 x.f1.f1.f1) ∧ w'.cell? ⟨(adr.add (oR * 6)).block, (adr.add (oR * 6)).off + 3, none⟩ = some (.string x.f1.f1.f2) ∧ w'.cell? ⟨(adr.add (oR * 6)).block, (adr.add (oR * 6)).off + 4, none⟩ = some (.slice F4 x.f1.f1.f3.length g4) ∧ w'.cell? ⟨(adr.add (oR * 6)).block, (adr.add (oR * 6)).off + 5, none⟩ = some (.slice F5 x.f1.f2.length g5))) (ds := []) #[false, false, false, false, false, false, false, false, false, false, false, false, false, false, false, false, false, false, false, false, false, false, false, false, false, false, false, false, false, false, false, false] (by kernel_rfl) rfl rfl ⟨(show w2.drew.cell? _ = _ from v0), (show w2.drew.cell? _ = _ from v2), (show w2.drew.cell? _ = _ from x0), (show w2.drew.cell? _ = _ from x1), (show w2.drew.cell? _ = _ from x2), (show w2.drew.cell? _ = _ from x3), (show w2.drew.cell? _ = _ from x4), (show w2.drew.cell? _ = _ from x5), (show w2.drew.cell? _ = _ from x6), (show w2.drew.cell? _ = _ from b0), (show w2.drew.cell? _ = _ from b1), (show w2.drew.cell? _ = _ from b2), (show w2.drew.cell? _ = _ from b3), (show w2.drew.cell? _ = _ from b4), (show w2.drew.cell? _ = _ from b5)⟩ (fun hHeld => ?_)
  have HBo : Hid (Below w2.heap.size w2 w2.drew) := Lib.hid (Below.refl _ _).drew
  generalize w2.drew = W at hHeld HBo ⊢
  refine pure_ (i := 0) (N := some 54) (v := ?_) (a' := ?_) #[true, false, false, false, false, false, false, false, false, false, false, false, false, false, false, false, false, false, false, false, false, false, false, false, false, false, false, false, false, false, false, false] rfl rfl (by kernel_rfl) (fun _ _ _ h => h) (Or.inl ⟨by rfl, ?_⟩) ?_ ?_
  rotate_left
  · intro w'
    go_simp
    with_reducible rfl
  rotate_left
  · simp only [Act.put, List.setIfInBounds_toArray, List.set_cons_zero, List.set_cons_succ]
    rfl
  refine take_ (i := 1) (N := some 55) (v := ?_) (a' := ?_) #[true, true, false, false, false, false, false, false, false, false, false, false, false, false, false, false, false, false, false, false, false, false, false, false, false, false, false, false, false, false, false, false] rfl rfl (by kernel_rfl) (fun _ _ _ h => h) (Or.inl ⟨by rfl, ?_⟩) hHeld ?_ ?_
  rotate_left
  · rintro w' ⟨s0, s1, s2, s3, s4, s5, s6, s7, s8, s9, s10, s11, s12, s13, s14⟩
    go_simp
    with_reducible rfl
  rotate_left
  · simp only [Act.put, List.setIfInBounds_toArray, List.set_cons_zero, List.set_cons_succ]
    rfl
  refine pure_ (i := 2) (N := some 56) (v := ?_) (a' := ?_) #[true, true, true, false, false, false, false, false, false, false, false, false, false, false, false, false, false, false, false, false, false, false, false, false, false, false, false, false, false, false, false, false] rfl rfl (by kernel_rfl) (fun _ _ _ h => h) (Or.inl ⟨by rfl, ?_⟩) ?_ ?_
  rotate_left
  · intro w'
    go_simp
    with_reducible rfl
  rotate_left
  · simp only [Act.put, List.setIfInBounds_toArray, List.set_cons_zero, List.set_cons_succ]
    rfl
  refine pure_ (i := 3) (N := some 57) (v := ?_) (a' := ?_) #[true, true, true, true, false, false, false, false, false, false, false, false, false, false, false, false, false, false, false, false, false, false, false, false, false, false, false, false, false, false, false, false] rfl rfl (by kernel_rfl) (fun _ _ _ h => h) (Or.inl ⟨by rfl, ?_⟩) ?_ ?_
  rotate_left
  · intro w'
    go_simp
    with_reducible rfl
  rotate_left
  · simp only [Act.put, List.setIfInBounds_toArray, List.set_cons_zero, List.set_cons_succ]
    rfl
  refine pure_ (i := 4) (N := some 58) (v := ?_) (a' := ?_) #[true, true, true, true, true, false, false, false, false, false, false, false, false, false, false, false, false, false, false, false, false, false, false, false, false, false, false, false, false, false, false, false] rfl rfl (by kernel_rfl) (fun _ _ _ h => h) (Or.inl ⟨by rfl, ?_⟩) ?_ ?_
  rotate_left
  · intro w'
    go_simp
    with_reducible rfl
  rotate_left
  · simp only [Act.put, List.setIfInBounds_toArray, List.set_cons_zero, List.set_cons_succ]
    rfl
  refine pure_ (i := 5) (N := some 59) (v := ?_) (a' := ?_) #[true, true, true, true, true, true, false, false, false, false, false, false, false, false, false, false, false, false, false, false, false, false, false, false, false, false, false, false, false, false, false, false] rfl rfl (by kernel_rfl) (fun _ _ _ h => h) (Or.inl ⟨by rfl, ?_⟩) ?_ ?_
  rotate_left
  · intro w'
    go_simp
    with_reducible rfl
  rotate_left
  · simp only [Act.put, List.setIfInBounds_toArray, List.set_cons_zero, List.set_cons_succ]
    rfl
  refine pure_ (i := 6) (N := some 60) (v := ?_) (a' := ?_) #[true, true, true, true, true, true, true, false, false, false, false, false, false, false, false, false, false, false, false, false, false, false, false, false, false, false, false, false, false, false, false, false] rfl rfl (by kernel_rfl) (fun _ _ _ h => h) (Or.inl ⟨by rfl, ?_⟩) ?_ ?_
  rotate_left
  · intro w'
    go_simp
    with_reducible rfl
  rotate_left
  · simp only [Act.put, List.setIfInBounds_toArray, List.set_cons_zero, List.set_cons_succ]
    rfl
  refine take_ (i := 7) (N := some 61) (v := ?_) (a' := ?_) #[true, true, true, true, true, true, true, true, false, false, false, false, false, false, false, false, false, false, false, false, false, false, false, false, false, false, false, false, false, false, false, false] rfl rfl (by kernel_rfl) (fun _ _ _ h => h) (Or.inl ⟨by rfl, ?_⟩) hHeld ?_ ?_
  rotate_left
  · rintro w' ⟨s0, s1, s2, s3, s4, s5, s6, s7, s8, s9, s10, s11, s12, s13, s14⟩
    go_simp
    with_reducible rfl
  rotate_left
  · simp only [Act.put, List.setIfInBounds_toArray, List.set_cons_zero, List.set_cons_succ]
    rfl
  refine pure_ (i := 8) (N := some 62) (v := ?_) (a' := ?_) #[true, true, true, true, true, true, true, true, true, false, false, false, false, false, false, false, false, false, false, false, false, false, false, false, false, false, false, false, false, false, false, false] rfl rfl (by kernel_rfl) (fun _ _ _ h => h) (Or.inl ⟨by rfl, ?_⟩) ?_ ?_
  rotate_left
  · intro w'
    go_simp
    with_reducible rfl
  rotate_left
  · simp only [Act.put, List.setIfInBounds_toArray, List.set_cons_zero, List.set_cons_succ]
    rfl
  refine pure_ (i := 9) (N := some 63) (v := ?_) (a' := ?_) #[true, true, true, true, true, true, true, true, true, true, false, false, false, false, false, false, false, false, false, false, false, false, false, false, false, false, false, false, false, false, false, false] rfl rfl (by kernel_rfl) (fun _ _ _ h => h) (Or.inl ⟨by rfl, ?_⟩) ?_ ?_
  rotate_left
  · intro w'
    go_simp
    with_reducible rfl
  rotate_left
  · simp only [Act.put, List.setIfInBounds_toArray, List.set_cons_zero, List.set_cons_succ]
    rfl
  refine pure_ (i := 10) (N := some 64) (v := ?_) (a' := ?_) #[true, true, true, true, true, true, true, true, true, true, true, false, false, false, false, false, false, false, false, false, false, false, false, false, false, false, false, false, false, false, false, false] rfl rfl (by kernel_rfl) (fun _ _ _ h => h) (Or.inl ⟨by rfl, ?_⟩) ?_ ?_
  rotate_left
  · intro w'
    go_simp
    with_reducible rfl
  rotate_left
  · simp only [Act.put, List.setIfInBounds_toArray, List.set_cons_zero, List.set_cons_succ]
    rfl
  refine take_ (i := 11) (N := some 65) (v := ?_) (a' := ?_) #[true, true, true, true, true, true, true, true, true, true, true, true, false, false, false, false, false, false, false, false, false, false, false, false, false, false, false, false, false, false, false, false] rfl rfl (by kernel_rfl) (fun _ _ _ h => h) (Or.inl ⟨by rfl, ?_⟩) hHeld ?_ ?_
  rotate_left
  · rintro w' ⟨s0, s1, s2, s3, s4, s5, s6, s7, s8, s9, s10, s11, s12, s13, s14⟩
    go_simp
    with_reducible rfl
  rotate_left
  · simp only [Act.put, List.setIfInBounds_toArray, List.set_cons_zero, List.set_cons_succ]
    rfl
  refine pure_ (i := 12) (N := some 66) (v := ?_) (a' := ?_) #[true, true, true, true, true, true, true, true, true, true, true, true, true, false, false, false, false, false, false, false, false, false, false, false, false, false, false, false, false, false, false, false] rfl rfl (by kernel_rfl) (fun _ _ _ h => h) (Or.inl ⟨by rfl, ?_⟩) ?_ ?_
  rotate_left
  · intro w'
    go_simp
    with_reducible rfl
  rotate_left
  · simp only [Act.put, List.setIfInBounds_toArray, List.set_cons_zero, List.set_cons_succ]
    rfl
  refine pure_ (i := 13) (N := some 67) (v := ?_) (a' := ?_) #[true, true, true, true, true, true, true, true, true, true, true, true, true, true, false, false, false, false, false, false, false, false, false, false, false, false, false, false, false, false, false, false] rfl rfl (by kernel_rfl) (fun _ _ _ h => h) (Or.inl ⟨by rfl, ?_⟩) ?_ ?_
  rotate_left
  · intro w'
    go_simp
    with_reducible rfl
  rotate_left
  · simp only [Act.put, List.setIfInBounds_toArray, List.set_cons_zero, List.set_cons_succ]
    rfl
  refine pure_ (i := 14) (N := some 68) (v := ?_) (a' := ?_) #[true, true, true, true, true, true, true, true, true, true, true, true, true, true, true, false, false, false, false, false, false, false, false, false, false, false, false, false, false, false, false, false] rfl rfl (by kernel_rfl) (fun _ _ _ h => h) (Or.inl ⟨by rfl, ?_⟩) ?_ ?_
  rotate_left
  · intro w'
    go_simp
    with_reducible rfl
  rotate_left
  · simp only [Act.put, List.setIfInBounds_toArray, List.set_cons_zero, List.set_cons_succ]
    rfl
  refine pure_ (i := 15) (N := some 69) (v := ?_) (a' := ?_) #[true, true, true, true, true, true, true, true, true, true, true, true, true, true, true, true, false, false, false, false, false, false, false, false, false, false, false, false, false, false, false, false] rfl rfl (by kernel_rfl) (fun _ _ _ h => h) (Or.inl ⟨by rfl, ?_⟩) ?_ ?_
  rotate_left
  · intro w'
    go_simp
    with_reducible rfl
  rotate_left
  · simp only [Act.put, List.setIfInBounds_toArray, List.set_cons_zero, List.set_cons_succ]
    rfl
  refine pure_ (i := 16) (N := some 70) (v := ?_) (a' := ?_) #[true, true, true, true, true, true, true, true, true, true, true, true, true, true, true, true, true, false, false, false, false, false, false, false, false, false, false, false, false, false, false, false] rfl rfl (by kernel_rfl) (fun _ _ _ h => h) (Or.inl ⟨by rfl, ?_⟩) ?_ ?_
  rotate_left
  · intro w'
    go_simp
    with_reducible rfl
  rotate_left
  · simp only [Act.put, List.setIfInBounds_toArray, List.set_cons_zero, List.set_cons_succ]
    rfl
  refine pure_ (i := 17) (N := some 71) (v := ?_) (a' := ?_) #[true, true, true, true, true, true, true, true, true, true, true, true, true, true, true, true, true, true, false, false, false, false, false, false, false, false, false, false, false, false, false, false] rfl rfl (by kernel_rfl) (fun _ _ _ h => h) (Or.inl ⟨by rfl, ?_⟩) ?_ ?_
  rotate_left
  · intro w'
    go_simp
    with_reducible rfl
  rotate_left
  · simp only [Act.put, List.setIfInBounds_toArray, List.set_cons_zero, List.set_cons_succ]
    rfl
  refine pure_ (i := 18) (N := some 72) (v := ?_) (a' := ?_) #[true, true, true, true, true, true, true, true, true, true, true, true, true, true, true, true, true, true, true, false, false, false, false, false, false, false, false, false, false, false, false, false] rfl rfl (by kernel_rfl) (fun _ _ _ h => h) (Or.inl ⟨by rfl, ?_⟩) ?_ ?_
  rotate_left
  · intro w'
    go_simp
    with_reducible rfl
  rotate_left
  · simp only [Act.put, List.setIfInBounds_toArray, List.set_cons_zero, List.set_cons_succ]
    rfl
  refine take_ (i := 19) (N := some 73) (v := ?_) (a' := ?_) #[true, true, true, true, true, true, true, true, true, true, true, true, true, true, true, true, true, true, true, true, false, false, false, false, false, false, false, false, false, false, false, false] rfl rfl (by kernel_rfl) (fun _ _ _ h => h) (Or.inl ⟨by rfl, ?_⟩) hHeld ?_ ?_
  rotate_left
  · rintro w' ⟨s0, s1, s2, s3, s4, s5, s6, s7, s8, s9, s10, s11, s12, s13, s14⟩
    go_simp
    with_reducible rfl
  rotate_left
  · simp only [Act.put, List.setIfInBounds_toArray, List.set_cons_zero, List.set_cons_succ]
    rfl
  refine pure_ (i := 20) (N := some 74) (v := ?_) (a' := ?_) #[true, true, true, true, true, true, true, true, true, true, true, true, true, true, true, true, true, true, true, true, true, false, false, false, false, false, false, false, false, false, false, false] rfl rfl (by kernel_rfl) (fun _ _ _ h => h) (Or.inl ⟨by rfl, ?_⟩) ?_ ?_
  rotate_left
  · intro w'
    go_simp
    with_reducible rfl
  rotate_left
  · simp only [Act.put, List.setIfInBounds_toArray, List.set_cons_zero, List.set_cons_succ]
    rfl
  refine pure_ (i := 21) (N := some 75) (v := ?_) (a' := ?_) #[true, true, true, true, true, true, true, true, true, true, true, true, true, true, true, true, true, true, true, true, true, true, false, false, false, false, false, false, false, false, false, false] rfl rfl (by kernel_rfl) (fun _ _ _ h => h) (Or.inl ⟨by rfl, ?_⟩) ?_ ?_
  rotate_left
  · intro w'
    go_simp
    with_reducible rfl
  rotate_left
  · simp only [Act.put, List.setIfInBounds_toArray, List.set_cons_zero, List.set_cons_succ]
    rfl
  refine pure_ (i := 22) (N := some 76) (v := ?_) (a' := ?_) #[true, true, true, true, true, true, true, true, true, true, true, true, true, true, true, true, true, true, true, true, true, true, true, false, false, false, false, false, false, false, false, false] rfl rfl (by kernel_rfl) (fun _ _ _ h => h) (Or.inl ⟨by rfl, ?_⟩) ?_ ?_
  rotate_left
  · intro w'
    go_simp
    with_reducible rfl
  rotate_left
  · simp only [Act.put, List.setIfInBounds_toArray, List.set_cons_zero, List.set_cons_succ]
    rfl
  refine take_ (i := 23) (N := some 77) (v := ?_) (a' := ?_) #[true, true, true, true, true, true, true, true, true, true, true, true, true, true, true, true, true, true, true, true, true, true, true, true, false, false, false, false, false, false, false, false] rfl rfl (by kernel_rfl) (fun _ _ _ h => h) (Or.inl ⟨by rfl, ?_⟩) hHeld ?_ ?_
  rotate_left
  · rintro w' ⟨s0, s1, s2, s3, s4, s5, s6, s7, s8, s9, s10, s11, s12, s13, s14⟩
    go_simp
    with_reducible rfl
  rotate_left
  · simp only [Act.put, List.setIfInBounds_toArray, List.set_cons_zero, List.set_cons_succ]
    rfl
  refine pure_ (i := 24) (N := some 78) (v := ?_) (a' := ?_) #[true, true, true, true, true, true, true, true, true, true, true, true, true, true, true, true, true, true, true, true, true, true, true, true, true, false, false, false, false, false, false, false] rfl rfl (by kernel_rfl) (fun _ _ _ h => h) (Or.inl ⟨by rfl, ?_⟩) ?_ ?_
  rotate_left
  · intro w'
    go_simp
    with_reducible rfl
  rotate_left
  · simp only [Act.put, List.setIfInBounds_toArray, List.set_cons_zero, List.set_cons_succ]
    rfl
  refine pure_ (i := 25) (N := some 79) (v := ?_) (a' := ?_) #[true, true, true, true, true, true, true, true, true, true, true, true, true, true, true, true, true, true, true, true, true, true, true, true, true, true, false, false, false, false, false, false] rfl rfl (by kernel_rfl) (fun _ _ _ h => h) (Or.inl ⟨by rfl, ?_⟩) ?_ ?_
  rotate_left
  · intro w'
    go_simp
    with_reducible rfl
  rotate_left
  · simp only [Act.put, List.setIfInBounds_toArray, List.set_cons_zero, List.set_cons_succ]
    rfl
  refine take_ (i := 26) (N := some 80) (v := ?_) (a' := ?_) #[true, true, true, true, true, true, true, true, true, true, true, true, true, true, true, true, true, true, true, true, true, true, true, true, true, true, true, false, false, false, false, false] rfl rfl (by kernel_rfl) (fun _ _ _ h => h) (Or.inl ⟨by rfl, ?_⟩) hHeld ?_ ?_
  rotate_left
  · rintro w' ⟨s0, s1, s2, s3, s4, s5, s6, s7, s8, s9, s10, s11, s12, s13, s14⟩
    go_simp
    with_reducible rfl
  rotate_left
  · simp only [Act.put, List.setIfInBounds_toArray, List.set_cons_zero, List.set_cons_succ]
    rfl
  refine pure_ (i := 27) (N := some 81) (v := ?_) (a' := ?_) #[true, true, true, true, true, true, true, true, true, true, true, true, true, true, true, true, true, true, true, true, true, true, true, true, true, true, true, true, false, false, false, false] rfl rfl (by kernel_rfl) (fun _ _ _ h => h) (Or.inl ⟨by rfl, ?_⟩) ?_ ?_
  rotate_left
  · intro w'
    go_simp
    with_reducible rfl
  rotate_left
  · simp only [Act.put, List.setIfInBounds_toArray, List.set_cons_zero, List.set_cons_succ]
    rfl
  refine take_ (i := 28) (N := some 82) (v := ?_) (a' := ?_) #[true, true, true, true, true, true, true, true, true, true, true, true, true, true, true, true, true, true, true, true, true, true, true, true, true, true, true, true, true, false, false, false] rfl rfl (by kernel_rfl) (fun _ _ _ h => h) (Or.inl ⟨by rfl, ?_⟩) hHeld ?_ ?_
  rotate_left
  · rintro w' ⟨s0, s1, s2, s3, s4, s5, s6, s7, s8, s9, s10, s11, s12, s13, s14⟩
    go_simp
    with_reducible rfl
  rotate_left
  · simp only [Act.put, List.setIfInBounds_toArray, List.set_cons_zero, List.set_cons_succ]
    rfl
  refine one_ (i := 29) (N := some 83) #[true, true, true, true, true, true, true, true, true, true, true, true, true, true, true, true, true, true, true, true, true, true, true, true, true, true, true, true, true, true, false, false] rfl rfl (by kernel_rfl) (by decide) (fun K hK => ?_)
  refine goes_ Try.func13 (by kernel_rfl) rfl #[.agg #[.string x.f1.f0, .int .i64 x.f1.f1.f0, .int .i64 x.f1.f1.f1, .string x.f1.f1.f2, .slice F4 x.f1.f1.f3.length g4, .slice F5 x.f1.f2.length g5], .agg #[.string x.f1.f0, .int .i64 x.f1.f1.f0, .int .i64 x.f1.f1.f1, .string x.f1.f1.f2, .slice D5 x.f1.f1.f3.length e5', .slice D6 x.f1.f2.length e6']] (by rfl) rfl rfl (by simp only [List.map_toArray, List.map_cons, List.map_nil]; rfl) ?_
  refine (HSAME.out W ⟨HBo.out⟩).mono ?_
  rintro e w11 ⟨rfl, HB11a⟩
  have HB11 : Hid (Below w2.heap.size w2 w11) := Lib.hid (HBo.out.trans (HB11a.out.mono HBo.out.size))
  refine ⟨_, rfl, ?_⟩
  refine hK.out _ _ ⟨pw_cell_below HB11a.out hHeld.1, pw_cell_below HB11a.out hHeld.2.1, pw_cell_below HB11a.out hHeld.2.2.1, pw_cell_below HB11a.out hHeld.2.2.2.1, pw_cell_below HB11a.out hHeld.2.2.2.2.1, pw_cell_below HB11a.out hHeld.2.2.2.2.2.1, pw_cell_below HB11a.out hHeld.2.2.2.2.2.2.1, pw_cell_below HB11a.out hHeld.2.2.2.2.2.2.2.1, pw_cell_below HB11a.out hHeld.2.2.2.2.2.2.2.2.1, pw_cell_below HB11a.out hHeld.2.2.2.2.2.2.2.2.2.1, pw_cell_below HB11a.out hHeld.2.2.2.2.2.2.2.2.2.2.1, pw_cell_below HB11a.out hHeld.2.2.2.2.2.2.2.2.2.2.2.1, pw_cell_below HB11a.out hHeld.2.2.2.2.2.2.2.2.2.2.2.2.1, pw_cell_below HB11a.out hHeld.2.2.2.2.2.2.2.2.2.2.2.2.2.1, pw_cell_below HB11a.out hHeld.2.2.2.2.2.2.2.2.2.2.2.2.2.2⟩ (fun hHeld => ?_)
  clear hK K
  refine norm_ (a' := ?_) ?_ ?_
  rotate_left
  · show Act.put _ (some 83) _ = _
    simp only [Act.put, List.setIfInBounds_toArray, List.set_cons_zero, List.set_cons_succ]
    rfl
  refine pure_ (i := 30) (N := some 84) (v := ?_) (a' := ?_) #[true, true, true, true, true, true, true, true, true, true, true, true, true, true, true, true, true, true, true, true, true, true, true, true, true, true, true, true, true, true, true, false] rfl rfl (by kernel_rfl) (fun _ _ _ h => h) (Or.inl ⟨by rfl, ?_⟩) ?_ ?_
  rotate_left
  · intro w'
    go_simp
    with_reducible rfl
  rotate_left
  · simp only [Act.put, List.setIfInBounds_toArray, List.set_cons_zero, List.set_cons_succ]
    rfl
  refine pure_ (i := 31) (N := some 4) (v := ?_) (a' := ?_) #[true, true, true, true, true, true, true, true, true, true, true, true, true, true, true, true, true, true, true, true, true, true, true, true, true, true, true, true, true, true, true, true] rfl rfl (by kernel_rfl) (fun _ _ _ h => h) (Or.inl ⟨by rfl, ?_⟩) ?_ ?_
  rotate_left
  · intro w'
    go_simp
    with_reducible rfl
  rotate_left
  · simp only [Act.put, List.setIfInBounds_toArray, List.set_cons_zero, List.set_cons_succ]
    rfl
  refine done_ (by kernel_rfl) ?_
  clear hHeld
  go_wp2_with (fail)
  go_ret
  obtain rfl := Ho1.out
  exact ⟨rfl, Lib.hid (HB2.out.upd (S := fun _ => False) (by decide) (by decide) (by decide) (by decide) (Upd.of_below' HB11.out (fun _ _ => rfl))), Lib.hid (HU2.out.then (Upd.of_below' HB11.out (fun _ _ => rfl)))⟩
set_option maxRecDepth 100000 in
set_option maxHeartbeats 8000000 in
/-- A mark. -/
theorem out22_m (own : Nat → Nat) (w : World) (b : Nat) (q : List Pq) (ms : List Int) (oR oM : Nat) (Ar Am : Option Addr) (cr cm : Nat) (h : BookAt own w b q ms oR oM Ar cr Am cm) (hq9 : q.length ≤ 10000) (hm9 : ms.length ≤ 10000) (m : Int) (D5 : Option Addr) (e5' : Nat) (D6 : Option Addr) (e6' : Nat) (hx : St k35 own w (⟨m, z33⟩ : S35) [.int .i64 m, .string ⟨#[]⟩, .int .i64 0, .int .i64 0, .string ⟨#[]⟩, .slice D5 0 e5', .slice D6 0 e6']) (h0 : 0 < m) (hoq : oM < ms.length) (hqx : ms[oM] = m) :
    Calls Try.prog 22 #[.pointer (some ⟨b, 0, none⟩), .agg #[.int .i64 m, .string ⟨#[]⟩, .int .i64 0, .int .i64 0, .string ⟨#[]⟩, .slice D5 0 e5', .slice D6 0 e6']] w fun e w' => e = .returned (.bool true) ∧ Hid (BookAt own w' b q ms oR (oM + 1) Ar cr Am cm) ∧ Hid (Upd (2 ≤ ·) own w own w') := by
  have HX := Lib.hid hx
  have HBK := Lib.hid (h.upd (S := fun _ => False) (by decide) (by decide) (by decide) (by decide) (Upd.box (.cells #[.int .i64 m, .string ⟨#[]⟩, .int .i64 0, .int .i64 0, .string ⟨#[]⟩, .slice D5 0 e5', .slice D6 0 e6'] 35)))
  have HU1 : Hid (Upd (2 ≤ ·) own w own (w.alloc (.cells #[.int .i64 m, .string ⟨#[]⟩, .int .i64 0, .int .i64 0, .string ⟨#[]⟩, .slice D5 0 e5', .slice D6 0 e6'] 35))) := Lib.hid (Upd.box _)
  have HE := Lib.hid (blk_new w (.cells #[.int .i64 m, .string ⟨#[]⟩, .int .i64 0, .int .i64 0, .string ⟨#[]⟩, .slice D5 0 e5', .slice D6 0 e6'] 35))
  have k0 : decide (0 < m) = true := decide_eq_true h0
  clear hx h h0
  go_enter Try.func22, Try.ntmps22
  go_upto_region 1 with (fail)
  generalize w.alloc (.cells #[.int .i64 m, .string ⟨#[]⟩, .int .i64 0, .int .i64 0, .string ⟨#[]⟩, .slice D5 0 e5', .slice D6 0 e6'] 35) = w1 at *
  generalize w.heap.size = bx at *
  have y0 : w1.cell? ⟨bx, 0, none⟩ = some (.int .i64 m) := blk_at HE.out 0 rfl
  have q2 : w1.cell? ⟨b, 3, none⟩ = some (.int .i64 oM) := blk_at HBK.out.hb 3 rfl
  have z2 : w1.frozen? ⟨b, 3, none⟩ = false := blk_frozen HBK.out.hb 3
  have hbx : b ≠ bx := blk_ne HBK.out.hb HE.out (by decide)
  go_upto_region 3 with (fail)
  obtain ⟨o1, ho1⟩ : ∃ o1, o1 = oM + 1 := ⟨_, rfl⟩
  have hs1 : (oM : Int) + 1 = (o1 : Int) := by omega
  try rw [hs1]
  have HB2 := Lib.hid (HBK.out.outM o1)
  have HU2 := Lib.hid (HU1.out.then (Upd.book (w := w1) HBK.out.ob 3 (.int .i64 o1)))
  have HX2 := Lib.hid (HX.out.upd (S := (2 ≤ ·)) (by decide) HU2.out)
  have HE2 : Hid ((w1.setCell ⟨b, 3, none⟩ (.int .i64 o1)).heap[bx]? = some (.cells #[.int .i64 m, .string ⟨#[]⟩, .int .i64 0, .int .i64 0, .string ⟨#[]⟩, .slice D5 0 e5', .slice D6 0 e6'] 35 (0, 0))) := Lib.hid ((Below.heap_setCell _ _ _ _ (Ne.symm hbx)).trans HE.out)
  generalize w1.setCell ⟨b, 3, none⟩ (.int .i64 o1) = w2 at *
  obtain ⟨adm, rfl, p0⟩ := Kd.at_int (Kd.R_reads' HB2.out.hM).2.2 (oM : Int) (by omega) (by omega)
  rw [Int.toNat_natCast] at p0
  have hrd : rd ms (oM : Int) = m := by
    unfold rd
    rw [Int.toNat_natCast, List.getD_eq_getElem?_getD, List.getElem?_eq_getElem hoq, hqx]
    rfl
  rw [hrd] at p0
  obtain ⟨t1, t2, t3, t4⟩ := St35_open (x := (⟨m, z33⟩ : S35)) HX2.out
  have HSAME : Hid (∀ W : World, PLift (Below w2.heap.size w2 W) → Calls Try.prog 13 #[.agg #[.string ⟨#[]⟩, .int .i64 0, .int .i64 0, .string ⟨#[]⟩, .slice D5 0 e5', .slice D6 0 e6'], .agg #[.string ⟨#[]⟩, .int .i64 0, .int .i64 0, .string ⟨#[]⟩, .slice none 0 0, .slice none 0 0]] W fun e w' => e = .returned (.bool true) ∧ Hid (Below W.heap.size W w')) := Lib.hid (fun W hW => same13 z33 D5 D6 none none e5' e6' 0 0 W (Kd.C_below t2.now hW.down) t1 (Kd.C_below t4.now hW.down) t3 (Kd.C_nil _ _) (Nat.le_refl _) (Kd.C_nil _ _) (Nat.le_refl _) (by decide))
  have v1 : w2.cell? ⟨b, 1, none⟩ = some (.slice (some adm) ms.length cm) := blk_at HB2.out.hb 1 rfl
  have v3 : w2.cell? ⟨b, 3, none⟩ = some (.int .i64 o1) := blk_at HB2.out.hb 3 rfl
  have x0 : w2.cell? ⟨bx, 0, none⟩ = some (.int .i64 m) := blk_at HE2.out 0 rfl
  have x1 : w2.cell? ⟨bx, 1, none⟩ = some (.string ⟨#[]⟩) := blk_at HE2.out 1 rfl
  have x2 : w2.cell? ⟨bx, 2, none⟩ = some (.int .i64 0) := blk_at HE2.out 2 rfl
  have x3 : w2.cell? ⟨bx, 3, none⟩ = some (.int .i64 0) := blk_at HE2.out 3 rfl
  have x4 : w2.cell? ⟨bx, 4, none⟩ = some (.string ⟨#[]⟩) := blk_at HE2.out 4 rfl
  have x5 : w2.cell? ⟨bx, 5, none⟩ = some (.slice D5 0 e5') := blk_at HE2.out 5 rfl
  have x6 : w2.cell? ⟨bx, 6, none⟩ = some (.slice D6 0 e6') := blk_at HE2.out 6 rfl
  clear t1 t2 t3 t4 hrd hqx HBK HX HX2 HU1 HE HE2 q2 z2 y0
  have hik : (o1 : Int) - 1 = (oM : Int) := by omega
  have hwk : IntKind.i64.wrap (oM : Int) = (oM : Int) := by rw [IntKind.wrap_i64]; omega
  obtain ⟨n, hn⟩ : ∃ n, n = ms.length := ⟨_, rfl⟩
  rw [← hn] at v1 hoq hm9
  have k5 : decide ((o1 : Int) ≤ (n : Int)) = true := decide_eq_true (by omega)
  have Ho1 := Lib.hid ho1
  have hmore : o1 ≤ 10000 := by omega
  have hk5 : o1 ≤ n := by omega
  clear ho1 hs1 hn
  refine start_ (n := 33) (S := (fun w' => w'.cell? ⟨b, 1, none⟩ = some (.slice (some adm) n cm) ∧ w'.cell? ⟨b, 3, none⟩ = some (.int .i64 o1) ∧ w'.cell? ⟨bx, 0, none⟩ = some (.int .i64 m) ∧ w'.cell? ⟨bx, 1, none⟩ = some (.string ⟨#[]⟩) ∧ w'.cell? ⟨bx, 2, none⟩ = some (.int .i64 0) ∧ w'.cell? ⟨bx, 3, none⟩ = some (.int .i64 0) ∧ w'.cell? ⟨bx, 4, none⟩ = some (.string ⟨#[]⟩) ∧ w'.cell? ⟨bx, 5, none⟩ = some (.slice D5 0 e5') ∧ w'.cell? ⟨bx, 6, none⟩ = some (.slice D6 0 e6') ∧ w'.cell? (adm.add oM) = some (.int .i64 m))) (ds := []) #[false, false, false, false, false, false, false, false, false, false, false, false, false, false, false, false, false, false, false, false, false, false, false, false, false, false, false, false, false, false, false, false, false] (by kernel_rfl) rfl rfl ⟨(show w2.drew.cell? _ = _ from v1), (show w2.drew.cell? _ = _ from v3), (show w2.drew.cell? _ = _ from x0), (show w2.drew.cell? _ = _ from x1), (show w2.drew.cell? _ = _ from x2), (show w2.drew.cell? _ = _ from x3), (show w2.drew.cell? _ = _ from x4), (show w2.drew.cell? _ = _ from x5), (show w2.drew.cell? _ = _ from x6), (show w2.drew.cell? _ = _ from p0)⟩ (fun hHeld => ?_)
  have HBo : Hid (Below w2.heap.size w2 w2.drew) := Lib.hid (Below.refl _ _).drew
  generalize w2.drew = W at hHeld HBo ⊢
  refine pure_ (i := 0) (N := some 15) (v := ?_) (a' := ?_) #[true, false, false, false, false, false, false, false, false, false, false, false, false, false, false, false, false, false, false, false, false, false, false, false, false, false, false, false, false, false, false, false, false] rfl rfl (by kernel_rfl) (fun _ _ _ h => h) (Or.inl ⟨by rfl, ?_⟩) ?_ ?_
  rotate_left
  · intro w'
    go_simp
    with_reducible rfl
  rotate_left
  · simp only [Act.put, List.setIfInBounds_toArray, List.set_cons_zero, List.set_cons_succ]
    rfl
  refine pure_ (i := 1) (N := some 16) (v := ?_) (a' := ?_) #[true, true, false, false, false, false, false, false, false, false, false, false, false, false, false, false, false, false, false, false, false, false, false, false, false, false, false, false, false, false, false, false, false] rfl rfl (by kernel_rfl) (fun _ _ _ h => h) (Or.inl ⟨by rfl, ?_⟩) ?_ ?_
  rotate_left
  · intro w'
    go_simp
    with_reducible rfl
  rotate_left
  · simp only [Act.put, List.setIfInBounds_toArray, List.set_cons_zero, List.set_cons_succ]
    rfl
  refine pure_ (i := 2) (N := some 17) (v := ?_) (a' := ?_) #[true, true, true, false, false, false, false, false, false, false, false, false, false, false, false, false, false, false, false, false, false, false, false, false, false, false, false, false, false, false, false, false, false] rfl rfl (by kernel_rfl) (fun _ _ _ h => h) (Or.inl ⟨by rfl, ?_⟩) ?_ ?_
  rotate_left
  · intro w'
    go_simp
    with_reducible rfl
  rotate_left
  · simp only [Act.put, List.setIfInBounds_toArray, List.set_cons_zero, List.set_cons_succ]
    rfl
  refine take_ (i := 3) (N := some 18) (v := ?_) (a' := ?_) #[true, true, true, true, false, false, false, false, false, false, false, false, false, false, false, false, false, false, false, false, false, false, false, false, false, false, false, false, false, false, false, false, false] rfl rfl (by kernel_rfl) (fun _ _ _ h => h) (Or.inl ⟨by rfl, ?_⟩) hHeld ?_ ?_
  rotate_left
  · rintro w' ⟨s0, s1, s2, s3, s4, s5, s6, s7, s8, s9⟩
    go_simp
    with_reducible rfl
  rotate_left
  · simp only [Act.put, List.setIfInBounds_toArray, List.set_cons_zero, List.set_cons_succ]
    rfl
  refine pure_ (i := 4) (N := some 19) (v := ?_) (a' := ?_) #[true, true, true, true, true, false, false, false, false, false, false, false, false, false, false, false, false, false, false, false, false, false, false, false, false, false, false, false, false, false, false, false, false] rfl rfl (by kernel_rfl) (fun _ _ _ h => h) (Or.inl ⟨by rfl, ?_⟩) ?_ ?_
  rotate_left
  · intro w'
    go_simp
    with_reducible rfl
  rotate_left
  · simp only [Act.put, List.setIfInBounds_toArray, List.set_cons_zero, List.set_cons_succ]
    rfl
  refine pure_ (i := 5) (N := some 20) (v := ?_) (a' := ?_) #[true, true, true, true, true, true, false, false, false, false, false, false, false, false, false, false, false, false, false, false, false, false, false, false, false, false, false, false, false, false, false, false, false] rfl rfl (by kernel_rfl) (fun _ _ _ h => h) (Or.inl ⟨by rfl, ?_⟩) ?_ ?_
  rotate_left
  · intro w'
    go_simp
    with_reducible rfl
  rotate_left
  · simp only [Act.put, List.setIfInBounds_toArray, List.set_cons_zero, List.set_cons_succ]
    rfl
  refine pure_ (i := 6) (N := some 21) (v := ?_) (a' := ?_) #[true, true, true, true, true, true, true, false, false, false, false, false, false, false, false, false, false, false, false, false, false, false, false, false, false, false, false, false, false, false, false, false, false] rfl rfl (by kernel_rfl) (fun _ _ _ h => h) (Or.inl ⟨by rfl, ?_⟩) ?_ ?_
  rotate_left
  · intro w'
    go_simp
    with_reducible rfl
  rotate_left
  · simp only [Act.put, List.setIfInBounds_toArray, List.set_cons_zero, List.set_cons_succ]
    rfl
  refine take_ (i := 7) (N := some 22) (v := ?_) (a' := ?_) #[true, true, true, true, true, true, true, true, false, false, false, false, false, false, false, false, false, false, false, false, false, false, false, false, false, false, false, false, false, false, false, false, false] rfl rfl (by kernel_rfl) (fun _ _ _ h => h) (Or.inl ⟨by rfl, ?_⟩) hHeld ?_ ?_
  rotate_left
  · rintro w' ⟨s0, s1, s2, s3, s4, s5, s6, s7, s8, s9⟩
    go_simp
    with_reducible rfl
  rotate_left
  · simp only [Act.put, List.setIfInBounds_toArray, List.set_cons_zero, List.set_cons_succ]
    rfl
  refine pure_ (i := 8) (N := some 23) (v := ?_) (a' := ?_) #[true, true, true, true, true, true, true, true, true, false, false, false, false, false, false, false, false, false, false, false, false, false, false, false, false, false, false, false, false, false, false, false, false] rfl rfl (by kernel_rfl) (fun _ _ _ h => h) (Or.inl ⟨by rfl, ?_⟩) ?_ ?_
  rotate_left
  · intro w'
    go_simp
    with_reducible rfl
  rotate_left
  · simp only [Act.put, List.setIfInBounds_toArray, List.set_cons_zero, List.set_cons_succ]
    rfl
  refine pure_ (i := 9) (N := some 24) (v := ?_) (a' := ?_) #[true, true, true, true, true, true, true, true, true, true, false, false, false, false, false, false, false, false, false, false, false, false, false, false, false, false, false, false, false, false, false, false, false] rfl rfl (by kernel_rfl) (fun _ _ _ h => h) (Or.inl ⟨by rfl, ?_⟩) ?_ ?_
  rotate_left
  · intro w'
    go_simp
    with_reducible rfl
  rotate_left
  · simp only [Act.put, List.setIfInBounds_toArray, List.set_cons_zero, List.set_cons_succ]
    rfl
  refine pure_ (i := 10) (N := some 25) (v := ?_) (a' := ?_) #[true, true, true, true, true, true, true, true, true, true, true, false, false, false, false, false, false, false, false, false, false, false, false, false, false, false, false, false, false, false, false, false, false] rfl rfl (by kernel_rfl) (fun _ _ _ h => h) (Or.inl ⟨by rfl, ?_⟩) ?_ ?_
  rotate_left
  · intro w'
    go_simp
    with_reducible rfl
  rotate_left
  · simp only [Act.put, List.setIfInBounds_toArray, List.set_cons_zero, List.set_cons_succ]
    rfl
  refine pure_ (i := 11) (N := some 26) (v := ?_) (a' := ?_) #[true, true, true, true, true, true, true, true, true, true, true, true, false, false, false, false, false, false, false, false, false, false, false, false, false, false, false, false, false, false, false, false, false] rfl rfl (by kernel_rfl) (fun _ _ _ h => h) (Or.inl ⟨by rfl, ?_⟩) ?_ ?_
  rotate_left
  · intro w'
    go_simp
    with_reducible rfl
  rotate_left
  · simp only [Act.put, List.setIfInBounds_toArray, List.set_cons_zero, List.set_cons_succ]
    rfl
  refine pure_ (i := 12) (N := some 27) (v := ?_) (a' := ?_) #[true, true, true, true, true, true, true, true, true, true, true, true, true, false, false, false, false, false, false, false, false, false, false, false, false, false, false, false, false, false, false, false, false] rfl rfl (by kernel_rfl) (fun _ _ _ h => h) (Or.inl ⟨by rfl, ?_⟩) ?_ ?_
  rotate_left
  · intro w'
    go_simp
    with_reducible rfl
  rotate_left
  · simp only [Act.put, List.setIfInBounds_toArray, List.set_cons_zero, List.set_cons_succ]
    rfl
  refine pure_ (i := 13) (N := some 28) (v := ?_) (a' := ?_) #[true, true, true, true, true, true, true, true, true, true, true, true, true, true, false, false, false, false, false, false, false, false, false, false, false, false, false, false, false, false, false, false, false] rfl rfl (by kernel_rfl) (fun _ _ _ h => h) (Or.inl ⟨by rfl, ?_⟩) ?_ ?_
  rotate_left
  · intro w'
    go_simp
    with_reducible rfl
  rotate_left
  · simp only [Act.put, List.setIfInBounds_toArray, List.set_cons_zero, List.set_cons_succ]
    rfl
  refine take_ (i := 14) (N := some 29) (v := ?_) (a' := ?_) #[true, true, true, true, true, true, true, true, true, true, true, true, true, true, true, false, false, false, false, false, false, false, false, false, false, false, false, false, false, false, false, false, false] rfl rfl (by kernel_rfl) (fun _ _ _ h => h) (Or.inl ⟨by rfl, ?_⟩) hHeld ?_ ?_
  rotate_left
  · rintro w' ⟨s0, s1, s2, s3, s4, s5, s6, s7, s8, s9⟩
    go_simp
    with_reducible rfl
  rotate_left
  · simp only [Act.put, List.setIfInBounds_toArray, List.set_cons_zero, List.set_cons_succ]
    rfl
  refine pure_ (i := 15) (N := some 30) (v := ?_) (a' := ?_) #[true, true, true, true, true, true, true, true, true, true, true, true, true, true, true, true, false, false, false, false, false, false, false, false, false, false, false, false, false, false, false, false, false] rfl rfl (by kernel_rfl) (fun _ _ _ h => h) (Or.inl ⟨by rfl, ?_⟩) ?_ ?_
  rotate_left
  · intro w'
    go_simp
    with_reducible rfl
  rotate_left
  · simp only [Act.put, List.setIfInBounds_toArray, List.set_cons_zero, List.set_cons_succ]
    rfl
  refine pure_ (i := 16) (N := some 31) (v := ?_) (a' := ?_) #[true, true, true, true, true, true, true, true, true, true, true, true, true, true, true, true, true, false, false, false, false, false, false, false, false, false, false, false, false, false, false, false, false] rfl rfl (by kernel_rfl) (fun _ _ _ h => h) (Or.inl ⟨by rfl, ?_⟩) ?_ ?_
  rotate_left
  · intro w'
    go_simp
    with_reducible rfl
  rotate_left
  · simp only [Act.put, List.setIfInBounds_toArray, List.set_cons_zero, List.set_cons_succ]
    rfl
  refine pure_ (i := 17) (N := some 32) (v := ?_) (a' := ?_) #[true, true, true, true, true, true, true, true, true, true, true, true, true, true, true, true, true, true, false, false, false, false, false, false, false, false, false, false, false, false, false, false, false] rfl rfl (by kernel_rfl) (fun _ _ _ h => h) (Or.inl ⟨by rfl, ?_⟩) ?_ ?_
  rotate_left
  · intro w'
    go_simp
    with_reducible rfl
  rotate_left
  · simp only [Act.put, List.setIfInBounds_toArray, List.set_cons_zero, List.set_cons_succ]
    rfl
  refine take_ (i := 18) (N := some 33) (v := ?_) (a' := ?_) #[true, true, true, true, true, true, true, true, true, true, true, true, true, true, true, true, true, true, true, false, false, false, false, false, false, false, false, false, false, false, false, false, false] rfl rfl (by kernel_rfl) (fun _ _ _ h => h) (Or.inl ⟨by rfl, ?_⟩) hHeld ?_ ?_
  rotate_left
  · rintro w' ⟨s0, s1, s2, s3, s4, s5, s6, s7, s8, s9⟩
    go_simp
    with_reducible rfl
  rotate_left
  · simp only [Act.put, List.setIfInBounds_toArray, List.set_cons_zero, List.set_cons_succ]
    rfl
  refine pure_ (i := 19) (N := some 34) (v := ?_) (a' := ?_) #[true, true, true, true, true, true, true, true, true, true, true, true, true, true, true, true, true, true, true, true, false, false, false, false, false, false, false, false, false, false, false, false, false] rfl rfl (by kernel_rfl) (fun _ _ _ h => h) (Or.inl ⟨by rfl, ?_⟩) ?_ ?_
  rotate_left
  · intro w'
    go_simp
    with_reducible rfl
  rotate_left
  · simp only [Act.put, List.setIfInBounds_toArray, List.set_cons_zero, List.set_cons_succ]
    rfl
  refine pure_ (i := 20) (N := some 35) (v := ?_) (a' := ?_) #[true, true, true, true, true, true, true, true, true, true, true, true, true, true, true, true, true, true, true, true, true, false, false, false, false, false, false, false, false, false, false, false, false] rfl rfl (by kernel_rfl) (fun _ _ _ h => h) (Or.inl ⟨by rfl, ?_⟩) ?_ ?_
  rotate_left
  · intro w'
    go_simp
    with_reducible rfl
  rotate_left
  · simp only [Act.put, List.setIfInBounds_toArray, List.set_cons_zero, List.set_cons_succ]
    rfl
  refine take_ (i := 21) (N := some 36) (v := ?_) (a' := ?_) #[true, true, true, true, true, true, true, true, true, true, true, true, true, true, true, true, true, true, true, true, true, true, false, false, false, false, false, false, false, false, false, false, false] rfl rfl (by kernel_rfl) (fun _ _ _ h => h) (Or.inl ⟨by rfl, ?_⟩) hHeld ?_ ?_
  rotate_left
  · rintro w' ⟨s0, s1, s2, s3, s4, s5, s6, s7, s8, s9⟩
    go_simp
    with_reducible rfl
  rotate_left
  · simp only [Act.put, List.setIfInBounds_toArray, List.set_cons_zero, List.set_cons_succ]
    rfl
  refine pure_ (i := 22) (N := some 37) (v := ?_) (a' := ?_) #[true, true, true, true, true, true, true, true, true, true, true, true, true, true, true, true, true, true, true, true, true, true, true, false, false, false, false, false, false, false, false, false, false] rfl rfl (by kernel_rfl) (fun _ _ _ h => h) (Or.inl ⟨by rfl, ?_⟩) ?_ ?_
  rotate_left
  · intro w'
    go_simp
    with_reducible rfl
  rotate_left
  · simp only [Act.put, List.setIfInBounds_toArray, List.set_cons_zero, List.set_cons_succ]
    rfl
  refine take_ (i := 23) (N := some 38) (v := ?_) (a' := ?_) #[true, true, true, true, true, true, true, true, true, true, true, true, true, true, true, true, true, true, true, true, true, true, true, true, false, false, false, false, false, false, false, false, false] rfl rfl (by kernel_rfl) (fun _ _ _ h => h) (Or.inl ⟨by rfl, ?_⟩) hHeld ?_ ?_
  rotate_left
  · rintro w' ⟨s0, s1, s2, s3, s4, s5, s6, s7, s8, s9⟩
    go_simp
    with_reducible rfl
  rotate_left
  · simp only [Act.put, List.setIfInBounds_toArray, List.set_cons_zero, List.set_cons_succ]
    rfl
  refine pure_ (i := 24) (N := some 39) (v := ?_) (a' := ?_) #[true, true, true, true, true, true, true, true, true, true, true, true, true, true, true, true, true, true, true, true, true, true, true, true, true, false, false, false, false, false, false, false, false] rfl rfl (by kernel_rfl) (fun _ _ _ h => h) (Or.inl ⟨by rfl, ?_⟩) ?_ ?_
  rotate_left
  · intro w'
    go_simp
    with_reducible rfl
  rotate_left
  · simp only [Act.put, List.setIfInBounds_toArray, List.set_cons_zero, List.set_cons_succ]
    rfl
  refine pure_ (i := 25) (N := some 40) (v := ?_) (a' := ?_) #[true, true, true, true, true, true, true, true, true, true, true, true, true, true, true, true, true, true, true, true, true, true, true, true, true, true, false, false, false, false, false, false, false] rfl rfl (by kernel_rfl) (fun _ _ _ h => h) (Or.inl ⟨by rfl, ?_⟩) ?_ ?_
  rotate_left
  · intro w'
    go_simp
    with_reducible rfl
  rotate_left
  · simp only [Act.put, List.setIfInBounds_toArray, List.set_cons_zero, List.set_cons_succ]
    rfl
  refine pure_ (i := 26) (N := some 41) (v := ?_) (a' := ?_) #[true, true, true, true, true, true, true, true, true, true, true, true, true, true, true, true, true, true, true, true, true, true, true, true, true, true, true, false, false, false, false, false, false] rfl rfl (by kernel_rfl) (fun _ _ _ h => h) (Or.inl ⟨by rfl, ?_⟩) ?_ ?_
  rotate_left
  · intro w'
    go_simp
    with_reducible rfl
  rotate_left
  · simp only [Act.put, List.setIfInBounds_toArray, List.set_cons_zero, List.set_cons_succ]
    rfl
  refine pure_ (i := 27) (N := some 42) (v := ?_) (a' := ?_) #[true, true, true, true, true, true, true, true, true, true, true, true, true, true, true, true, true, true, true, true, true, true, true, true, true, true, true, true, false, false, false, false, false] rfl rfl (by kernel_rfl) (fun _ _ _ h => h) (Or.inl ⟨by rfl, ?_⟩) ?_ ?_
  rotate_left
  · intro w'
    go_simp
    with_reducible rfl
  rotate_left
  · simp only [Act.put, List.setIfInBounds_toArray, List.set_cons_zero, List.set_cons_succ]
    rfl
  refine take_ (i := 28) (N := some 43) (v := ?_) (a' := ?_) #[true, true, true, true, true, true, true, true, true, true, true, true, true, true, true, true, true, true, true, true, true, true, true, true, true, true, true, true, true, false, false, false, false] rfl rfl (by kernel_rfl) (fun _ _ _ h => h) (Or.inl ⟨by rfl, ?_⟩) hHeld ?_ ?_
  rotate_left
  · rintro w' ⟨s0, s1, s2, s3, s4, s5, s6, s7, s8, s9⟩
    go_simp
    with_reducible rfl
  rotate_left
  · simp only [Act.put, List.setIfInBounds_toArray, List.set_cons_zero, List.set_cons_succ]
    rfl
  refine pure_ (i := 29) (N := some 44) (v := ?_) (a' := ?_) #[true, true, true, true, true, true, true, true, true, true, true, true, true, true, true, true, true, true, true, true, true, true, true, true, true, true, true, true, true, true, false, false, false] rfl rfl (by kernel_rfl) (fun _ _ _ h => h) (Or.inl ⟨by rfl, ?_⟩) ?_ ?_
  rotate_left
  · intro w'
    go_simp
    with_reducible rfl
  rotate_left
  · simp only [Act.put, List.setIfInBounds_toArray, List.set_cons_zero, List.set_cons_succ]
    rfl
  refine one_ (i := 30) (N := some 45) #[true, true, true, true, true, true, true, true, true, true, true, true, true, true, true, true, true, true, true, true, true, true, true, true, true, true, true, true, true, true, true, false, false] rfl rfl (by kernel_rfl) (by decide) (fun K hK => ?_)
  refine goes_ Try.func13 (by kernel_rfl) rfl #[.agg #[.string ⟨#[]⟩, .int .i64 0, .int .i64 0, .string ⟨#[]⟩, .slice D5 0 e5', .slice D6 0 e6'], .agg #[.string ⟨#[]⟩, .int .i64 0, .int .i64 0, .string ⟨#[]⟩, .slice none 0 0, .slice none 0 0]] (by rfl) rfl rfl (by simp only [List.map_toArray, List.map_cons, List.map_nil]; rfl) ?_
  refine (HSAME.out W ⟨HBo.out⟩).mono ?_
  rintro e w11 ⟨rfl, HB11a⟩
  have HB11 : Hid (Below w2.heap.size w2 w11) := Lib.hid (HBo.out.trans (HB11a.out.mono HBo.out.size))
  refine ⟨_, rfl, ?_⟩
  refine hK.out _ _ ⟨pw_cell_below HB11a.out hHeld.1, pw_cell_below HB11a.out hHeld.2.1, pw_cell_below HB11a.out hHeld.2.2.1, pw_cell_below HB11a.out hHeld.2.2.2.1, pw_cell_below HB11a.out hHeld.2.2.2.2.1, pw_cell_below HB11a.out hHeld.2.2.2.2.2.1, pw_cell_below HB11a.out hHeld.2.2.2.2.2.2.1, pw_cell_below HB11a.out hHeld.2.2.2.2.2.2.2.1, pw_cell_below HB11a.out hHeld.2.2.2.2.2.2.2.2.1, pw_cell_below HB11a.out hHeld.2.2.2.2.2.2.2.2.2⟩ (fun hHeld => ?_)
  clear hK K
  refine norm_ (a' := ?_) ?_ ?_
  rotate_left
  · show Act.put _ (some 45) _ = _
    simp only [Act.put, List.setIfInBounds_toArray, List.set_cons_zero, List.set_cons_succ]
    rfl
  refine pure_ (i := 31) (N := some 46) (v := ?_) (a' := ?_) #[true, true, true, true, true, true, true, true, true, true, true, true, true, true, true, true, true, true, true, true, true, true, true, true, true, true, true, true, true, true, true, true, false] rfl rfl (by kernel_rfl) (fun _ _ _ h => h) (Or.inl ⟨by rfl, ?_⟩) ?_ ?_
  rotate_left
  · intro w'
    go_simp
    with_reducible rfl
  rotate_left
  · simp only [Act.put, List.setIfInBounds_toArray, List.set_cons_zero, List.set_cons_succ]
    rfl
  refine pure_ (i := 32) (N := some 4) (v := ?_) (a' := ?_) #[true, true, true, true, true, true, true, true, true, true, true, true, true, true, true, true, true, true, true, true, true, true, true, true, true, true, true, true, true, true, true, true, true] rfl rfl (by kernel_rfl) (fun _ _ _ h => h) (Or.inl ⟨by rfl, ?_⟩) ?_ ?_
  rotate_left
  · intro w'
    go_simp
    with_reducible rfl
  rotate_left
  · simp only [Act.put, List.setIfInBounds_toArray, List.set_cons_zero, List.set_cons_succ]
    rfl
  refine done_ (by kernel_rfl) ?_
  clear hHeld
  go_wp2_with (fail)
  go_ret
  obtain rfl := Ho1.out
  exact ⟨rfl, Lib.hid (HB2.out.upd (S := fun _ => False) (by decide) (by decide) (by decide) (by decide) (Upd.of_below' HB11.out (fun _ _ => rfl))), Lib.hid (HU2.out.then (Upd.of_below' HB11.out (fun _ _ => rfl)))⟩
end Go.Proofs.Ytcbfddhdaamimaa.PLaneFifo
namespace Go.Proofs.Ytcbfddhdaamimaa.PLaneFifo
open Go.RowKit Go.Conc Go.Proofs.YtcbfddhdaamimaaW.PrintWords Go.Proofs.YtcbfddhdaamimaaW.PrintLast
set_option linter.unusedVariables false
set_option linter.unusedSimpArgs false

set_option maxRecDepth 100000 in
set_option maxHeartbeats 4000000 in
theorem pull34_0 (own : Nat → Nat) (w : World) (b : Nat) (q : List Pq) (ms : List Int) (oR oM : Nat) (Ar Am : Option Addr) (cr cm : Nat) (h : BookAt own w b q ms oR oM Ar cr Am cm) (hq9 : q.length ≤ 10000) (hm9 : ms.length ≤ 10000) (ho : oM = ms.length) :
    Calls Try.prog 34 #[.pointer (some ⟨b, 0, none⟩), .int .i64 0, .slice none 0 0] w fun e w' => e = .returned (.bool true) ∧ Hid (Below w.heap.size w w') := by
  have q1 : w.cell? ⟨b, 1, none⟩ = some (.slice Am ms.length cm) := blk_at h.hb 1 rfl
  have q3 : w.cell? ⟨b, 3, none⟩ = some (.int .i64 oM) := blk_at h.hb 3 rfl
  clear h
  rw [ho] at q3
  clear ho
  generalize ms.length = n at *
  go_enter Try.func34, Try.ntmps34
  go_wp2_with (fail)
  go_quiet (fail)
  go_wp2_with (fail)
  go_ret
  exact ⟨by rfl, Lib.hid (pw_below_drewN (Below.refl _ _) _)⟩
set_option maxRecDepth 100000 in
set_option maxHeartbeats 8000000 in
theorem pull34_m (own : Nat → Nat) (w : World) (b : Nat) (q : List Pq) (ms : List Int) (oR oM : Nat) (Ar Am : Option Addr) (cr cm : Nat) (h : BookAt own w b q ms oR oM Ar cr Am cm) (hq9 : q.length ≤ 10000) (hm9 : ms.length ≤ 10000) (id : Int) (hid : id ≠ 0) (hoq : oM < ms.length) (hqx : ms[oM] = id) (hor : oR ≤ q.length) (rs : List S33) (A : Option Addr) (ca : Nat) (hC : StC k33 own w A rs.length rs) (hca : rs.length ≤ ca) (hrs : rs = ((q.map (·.1)).drop oR).take rs.length) (hrl : rs.length ≤ q.length - oR) (hp : ∀ y ∈ rs, partsR y ≤ 100000) :
    Calls Try.prog 34 #[.pointer (some ⟨b, 0, none⟩), .int .i64 id, .slice A rs.length ca] w fun e w' => e = .returned (.bool true) ∧ Hid (BookAt own w' b q ms oR (oM + 1) Ar cr Am cm) ∧ Hid (Upd (2 ≤ ·) own w own w') := by
  have HC := Lib.hid hC
  have HP := Lib.hid hp
  have HRS := Lib.hid hrs
  have HBK := Lib.hid h
  have k0 : (id == 0) = false := by simp [hid]
  have Hca := Lib.hid hca
  obtain ⟨k, hk⟩ : ∃ k, k = rs.length := ⟨_, rfl⟩
  rw [← hk] at hrl ⊢
  have Hk := Lib.hid hk
  have q2 : w.cell? ⟨b, 3, none⟩ = some (.int .i64 oM) := blk_at h.hb 3 rfl
  have z2 : w.frozen? ⟨b, 3, none⟩ = false := blk_frozen h.hb 3
  clear hC hp hrs h hid hk hca
  go_enter Try.func34, Try.ntmps34
  go_upto_region 4 with (fail)
  obtain ⟨o1, ho1⟩ : ∃ o1, o1 = oM + 1 := ⟨_, rfl⟩
  have hs1 : (oM : Int) + 1 = (o1 : Int) := by omega
  try rw [hs1]
  have HB2 := Lib.hid (HBK.out.outM o1)
  have HU2 := Lib.hid (Upd.book (w := w) HBK.out.ob 3 (.int .i64 o1))
  generalize w.setCell ⟨b, 3, none⟩ (.int .i64 o1) = w2 at *
  obtain ⟨adm, rfl, p0⟩ := Kd.at_int (Kd.R_reads' HB2.out.hM).2.2 (oM : Int) (by omega) (by omega)
  rw [Int.toNat_natCast] at p0
  have hrd : rd ms (oM : Int) = id := by
    unfold rd
    rw [Int.toNat_natCast, List.getD_eq_getElem?_getD, List.getElem?_eq_getElem hoq, hqx]
    rfl
  rw [hrd] at p0
  obtain ⟨nq, hnq⟩ : ∃ nq, nq = q.length := ⟨_, rfl⟩
  obtain ⟨hd, hhd⟩ : ∃ hd, hd = nq - oR := ⟨_, rfl⟩
  have HHELD : Hid (∀ W : World, PLift (Below w2.heap.size w2 W) → Calls Try.prog 33 #[.pointer (some ⟨b, 0, none⟩)] W fun e w' => e = .returned (.int .i64 (hd : Int)) ∧ Hid (Below W.heap.size W w')) := Lib.hid (fun W hW => by
    have := held33 own W b q ms oR o1 Ar (some adm) cr cm (HB2.out.upd (S := fun _ => False) (by decide) (by decide) (by decide) (by decide) (Upd.of_below' hW.down (fun _ _ => rfl))) hq9 hor
    rw [← hnq, ← hhd] at this
    exact this)
  have v1 : w2.cell? ⟨b, 1, none⟩ = some (.slice (some adm) ms.length cm) := blk_at HB2.out.hb 1 rfl
  have v3 : w2.cell? ⟨b, 3, none⟩ = some (.int .i64 o1) := blk_at HB2.out.hb 3 rfl
  have v0 : w2.cell? ⟨b, 0, none⟩ = some (.slice Ar q.length cr) := blk_at HB2.out.hb 0 rfl
  have v2 : w2.cell? ⟨b, 2, none⟩ = some (.int .i64 oR) := blk_at HB2.out.hb 2 rfl
  have Hnq := Lib.hid hnq
  obtain ⟨n, hn⟩ : ∃ n, n = ms.length := ⟨_, rfl⟩
  rw [← hn] at v1 hoq hm9
  rw [← hnq] at v0 hq9 hor hrl
  rw [← hhd] at hrl
  have hik : (o1 : Int) - 1 = (oM : Int) := by omega
  have hwk : IntKind.i64.wrap (oM : Int) = (oM : Int) := by rw [IntKind.wrap_i64]; omega
  have Ho1 := Lib.hid ho1
  have hmore : o1 ≤ 10000 := by omega
  have hk5 : ¬ n < o1 := by omega
  have hk6 : ¬ hd < k := by omega
  have hd9 : hd ≤ 10000 := by omega
  have hk9 : oR + k ≤ nq := by omega
  clear ho1 hs1 hn hnq hhd hrd hqx q2 z2 HBK
  refine start_ (n := 32) (S := (fun w' => w'.cell? ⟨b, 1, none⟩ = some (.slice (some adm) n cm) ∧ w'.cell? ⟨b, 3, none⟩ = some (.int .i64 o1) ∧ w'.cell? (adm.add oM) = some (.int .i64 id))) (ds := []) #[false, false, false, false, false, false, false, false, false, false, false, false, false, false, false, false, false, false, false, false, false, false, false, false, false, false, false, false, false, false, false, false] (by kernel_rfl) rfl rfl ⟨(show w2.drew.cell? _ = _ from v1), (show w2.drew.cell? _ = _ from v3), (show w2.drew.cell? _ = _ from p0)⟩ (fun hHeld => ?_)
  have HBo : Hid (Below w2.heap.size w2 w2.drew) := Lib.hid (Below.refl _ _).drew
  generalize w2.drew = W at hHeld HBo ⊢
  refine pure_ (i := 0) (N := some 31) (v := ?_) (a' := ?_) #[true, false, false, false, false, false, false, false, false, false, false, false, false, false, false, false, false, false, false, false, false, false, false, false, false, false, false, false, false, false, false, false] rfl rfl (by kernel_rfl) (fun _ _ _ h => h) (Or.inl ⟨by rfl, ?_⟩) ?_ ?_
  rotate_left
  · intro w'
    go_simp
    with_reducible rfl
  rotate_left
  · simp only [Act.put, List.setIfInBounds_toArray, List.set_cons_zero, List.set_cons_succ]
    rfl
  refine pure_ (i := 1) (N := some 32) (v := ?_) (a' := ?_) #[true, true, false, false, false, false, false, false, false, false, false, false, false, false, false, false, false, false, false, false, false, false, false, false, false, false, false, false, false, false, false, false] rfl rfl (by kernel_rfl) (fun _ _ _ h => h) (Or.inl ⟨by rfl, ?_⟩) ?_ ?_
  rotate_left
  · intro w'
    go_simp
    with_reducible rfl
  rotate_left
  · simp only [Act.put, List.setIfInBounds_toArray, List.set_cons_zero, List.set_cons_succ]
    rfl
  refine pure_ (i := 2) (N := some 33) (v := ?_) (a' := ?_) #[true, true, true, false, false, false, false, false, false, false, false, false, false, false, false, false, false, false, false, false, false, false, false, false, false, false, false, false, false, false, false, false] rfl rfl (by kernel_rfl) (fun _ _ _ h => h) (Or.inl ⟨by rfl, ?_⟩) ?_ ?_
  rotate_left
  · intro w'
    go_simp
    with_reducible rfl
  rotate_left
  · simp only [Act.put, List.setIfInBounds_toArray, List.set_cons_zero, List.set_cons_succ]
    rfl
  refine take_ (i := 3) (N := some 34) (v := ?_) (a' := ?_) #[true, true, true, true, false, false, false, false, false, false, false, false, false, false, false, false, false, false, false, false, false, false, false, false, false, false, false, false, false, false, false, false] rfl rfl (by kernel_rfl) (fun _ _ _ h => h) (Or.inl ⟨by rfl, ?_⟩) hHeld ?_ ?_
  rotate_left
  · rintro w' ⟨s0, s1, s2⟩
    go_simp
    with_reducible rfl
  rotate_left
  · simp only [Act.put, List.setIfInBounds_toArray, List.set_cons_zero, List.set_cons_succ]
    rfl
  refine pure_ (i := 4) (N := some 35) (v := ?_) (a' := ?_) #[true, true, true, true, true, false, false, false, false, false, false, false, false, false, false, false, false, false, false, false, false, false, false, false, false, false, false, false, false, false, false, false] rfl rfl (by kernel_rfl) (fun _ _ _ h => h) (Or.inl ⟨by rfl, ?_⟩) ?_ ?_
  rotate_left
  · intro w'
    go_simp
    with_reducible rfl
  rotate_left
  · simp only [Act.put, List.setIfInBounds_toArray, List.set_cons_zero, List.set_cons_succ]
    rfl
  refine pure_ (i := 5) (N := some 36) (v := ?_) (a' := ?_) #[true, true, true, true, true, true, false, false, false, false, false, false, false, false, false, false, false, false, false, false, false, false, false, false, false, false, false, false, false, false, false, false] rfl rfl (by kernel_rfl) (fun _ _ _ h => h) (Or.inl ⟨by rfl, ?_⟩) ?_ ?_
  rotate_left
  · intro w'
    go_simp
    with_reducible rfl
  rotate_left
  · simp only [Act.put, List.setIfInBounds_toArray, List.set_cons_zero, List.set_cons_succ]
    rfl
  refine pure_ (i := 6) (N := some 37) (v := ?_) (a' := ?_) #[true, true, true, true, true, true, true, false, false, false, false, false, false, false, false, false, false, false, false, false, false, false, false, false, false, false, false, false, false, false, false, false] rfl rfl (by kernel_rfl) (fun _ _ _ h => h) (Or.inl ⟨by rfl, ?_⟩) ?_ ?_
  rotate_left
  · intro w'
    go_simp
    with_reducible rfl
  rotate_left
  · simp only [Act.put, List.setIfInBounds_toArray, List.set_cons_zero, List.set_cons_succ]
    rfl
  refine take_ (i := 7) (N := some 38) (v := ?_) (a' := ?_) #[true, true, true, true, true, true, true, true, false, false, false, false, false, false, false, false, false, false, false, false, false, false, false, false, false, false, false, false, false, false, false, false] rfl rfl (by kernel_rfl) (fun _ _ _ h => h) (Or.inl ⟨by rfl, ?_⟩) hHeld ?_ ?_
  rotate_left
  · rintro w' ⟨s0, s1, s2⟩
    go_simp
    with_reducible rfl
  rotate_left
  · simp only [Act.put, List.setIfInBounds_toArray, List.set_cons_zero, List.set_cons_succ]
    rfl
  refine pure_ (i := 8) (N := some 39) (v := ?_) (a' := ?_) #[true, true, true, true, true, true, true, true, true, false, false, false, false, false, false, false, false, false, false, false, false, false, false, false, false, false, false, false, false, false, false, false] rfl rfl (by kernel_rfl) (fun _ _ _ h => h) (Or.inl ⟨by rfl, ?_⟩) ?_ ?_
  rotate_left
  · intro w'
    go_simp
    with_reducible rfl
  rotate_left
  · simp only [Act.put, List.setIfInBounds_toArray, List.set_cons_zero, List.set_cons_succ]
    rfl
  refine pure_ (i := 9) (N := some 40) (v := ?_) (a' := ?_) #[true, true, true, true, true, true, true, true, true, true, false, false, false, false, false, false, false, false, false, false, false, false, false, false, false, false, false, false, false, false, false, false] rfl rfl (by kernel_rfl) (fun _ _ _ h => h) (Or.inl ⟨by rfl, ?_⟩) ?_ ?_
  rotate_left
  · intro w'
    go_simp
    with_reducible rfl
  rotate_left
  · simp only [Act.put, List.setIfInBounds_toArray, List.set_cons_zero, List.set_cons_succ]
    rfl
  refine pure_ (i := 10) (N := some 41) (v := ?_) (a' := ?_) #[true, true, true, true, true, true, true, true, true, true, true, false, false, false, false, false, false, false, false, false, false, false, false, false, false, false, false, false, false, false, false, false] rfl rfl (by kernel_rfl) (fun _ _ _ h => h) (Or.inl ⟨by rfl, ?_⟩) ?_ ?_
  rotate_left
  · intro w'
    go_simp
    with_reducible rfl
  rotate_left
  · simp only [Act.put, List.setIfInBounds_toArray, List.set_cons_zero, List.set_cons_succ]
    rfl
  refine pure_ (i := 11) (N := some 42) (v := ?_) (a' := ?_) #[true, true, true, true, true, true, true, true, true, true, true, true, false, false, false, false, false, false, false, false, false, false, false, false, false, false, false, false, false, false, false, false] rfl rfl (by kernel_rfl) (fun _ _ _ h => h) (Or.inl ⟨by rfl, ?_⟩) ?_ ?_
  rotate_left
  · intro w'
    go_simp
    with_reducible rfl
  rotate_left
  · simp only [Act.put, List.setIfInBounds_toArray, List.set_cons_zero, List.set_cons_succ]
    rfl
  refine pure_ (i := 12) (N := some 43) (v := ?_) (a' := ?_) #[true, true, true, true, true, true, true, true, true, true, true, true, true, false, false, false, false, false, false, false, false, false, false, false, false, false, false, false, false, false, false, false] rfl rfl (by kernel_rfl) (fun _ _ _ h => h) (Or.inl ⟨by rfl, ?_⟩) ?_ ?_
  rotate_left
  · intro w'
    go_simp
    with_reducible rfl
  rotate_left
  · simp only [Act.put, List.setIfInBounds_toArray, List.set_cons_zero, List.set_cons_succ]
    rfl
  refine pure_ (i := 13) (N := some 44) (v := ?_) (a' := ?_) #[true, true, true, true, true, true, true, true, true, true, true, true, true, true, false, false, false, false, false, false, false, false, false, false, false, false, false, false, false, false, false, false] rfl rfl (by kernel_rfl) (fun _ _ _ h => h) (Or.inl ⟨by rfl, ?_⟩) ?_ ?_
  rotate_left
  · intro w'
    go_simp
    with_reducible rfl
  rotate_left
  · simp only [Act.put, List.setIfInBounds_toArray, List.set_cons_zero, List.set_cons_succ]
    rfl
  refine take_ (i := 14) (N := some 45) (v := ?_) (a' := ?_) #[true, true, true, true, true, true, true, true, true, true, true, true, true, true, true, false, false, false, false, false, false, false, false, false, false, false, false, false, false, false, false, false] rfl rfl (by kernel_rfl) (fun _ _ _ h => h) (Or.inl ⟨by rfl, ?_⟩) hHeld ?_ ?_
  rotate_left
  · rintro w' ⟨s0, s1, s2⟩
    go_simp
    with_reducible rfl
  rotate_left
  · simp only [Act.put, List.setIfInBounds_toArray, List.set_cons_zero, List.set_cons_succ]
    rfl
  refine pure_ (i := 15) (N := some 46) (v := ?_) (a' := ?_) #[true, true, true, true, true, true, true, true, true, true, true, true, true, true, true, true, false, false, false, false, false, false, false, false, false, false, false, false, false, false, false, false] rfl rfl (by kernel_rfl) (fun _ _ _ h => h) (Or.inl ⟨by rfl, ?_⟩) ?_ ?_
  rotate_left
  · intro w'
    go_simp
    with_reducible rfl
  rotate_left
  · simp only [Act.put, List.setIfInBounds_toArray, List.set_cons_zero, List.set_cons_succ]
    rfl
  refine pure_ (i := 16) (N := some 47) (v := ?_) (a' := ?_) #[true, true, true, true, true, true, true, true, true, true, true, true, true, true, true, true, true, false, false, false, false, false, false, false, false, false, false, false, false, false, false, false] rfl rfl (by kernel_rfl) (fun _ _ _ h => h) (Or.inl ⟨by rfl, ?_⟩) ?_ ?_
  rotate_left
  · intro w'
    go_simp
    with_reducible rfl
  rotate_left
  · simp only [Act.put, List.setIfInBounds_toArray, List.set_cons_zero, List.set_cons_succ]
    rfl
  refine pure_ (i := 17) (N := some 48) (v := ?_) (a' := ?_) #[true, true, true, true, true, true, true, true, true, true, true, true, true, true, true, true, true, true, false, false, false, false, false, false, false, false, false, false, false, false, false, false] rfl rfl (by kernel_rfl) (fun _ _ _ h => h) (Or.inl ⟨by rfl, ?_⟩) ?_ ?_
  rotate_left
  · intro w'
    go_simp
    with_reducible rfl
  rotate_left
  · simp only [Act.put, List.setIfInBounds_toArray, List.set_cons_zero, List.set_cons_succ]
    rfl
  refine take_ (i := 18) (N := some 49) (v := ?_) (a' := ?_) #[true, true, true, true, true, true, true, true, true, true, true, true, true, true, true, true, true, true, true, false, false, false, false, false, false, false, false, false, false, false, false, false] rfl rfl (by kernel_rfl) (fun _ _ _ h => h) (Or.inl ⟨by rfl, ?_⟩) hHeld ?_ ?_
  rotate_left
  · rintro w' ⟨s0, s1, s2⟩
    go_simp
    with_reducible rfl
  rotate_left
  · simp only [Act.put, List.setIfInBounds_toArray, List.set_cons_zero, List.set_cons_succ]
    rfl
  refine pure_ (i := 19) (N := some 50) (v := ?_) (a' := ?_) #[true, true, true, true, true, true, true, true, true, true, true, true, true, true, true, true, true, true, true, true, false, false, false, false, false, false, false, false, false, false, false, false] rfl rfl (by kernel_rfl) (fun _ _ _ h => h) (Or.inl ⟨by rfl, ?_⟩) ?_ ?_
  rotate_left
  · intro w'
    go_simp
    with_reducible rfl
  rotate_left
  · simp only [Act.put, List.setIfInBounds_toArray, List.set_cons_zero, List.set_cons_succ]
    rfl
  refine pure_ (i := 20) (N := some 51) (v := ?_) (a' := ?_) #[true, true, true, true, true, true, true, true, true, true, true, true, true, true, true, true, true, true, true, true, true, false, false, false, false, false, false, false, false, false, false, false] rfl rfl (by kernel_rfl) (fun _ _ _ h => h) (Or.inl ⟨by rfl, ?_⟩) ?_ ?_
  rotate_left
  · intro w'
    go_simp
    with_reducible rfl
  rotate_left
  · simp only [Act.put, List.setIfInBounds_toArray, List.set_cons_zero, List.set_cons_succ]
    rfl
  refine take_ (i := 21) (N := some 52) (v := ?_) (a' := ?_) #[true, true, true, true, true, true, true, true, true, true, true, true, true, true, true, true, true, true, true, true, true, true, false, false, false, false, false, false, false, false, false, false] rfl rfl (by kernel_rfl) (fun _ _ _ h => h) (Or.inl ⟨by rfl, ?_⟩) hHeld ?_ ?_
  rotate_left
  · rintro w' ⟨s0, s1, s2⟩
    go_simp
    with_reducible rfl
  rotate_left
  · simp only [Act.put, List.setIfInBounds_toArray, List.set_cons_zero, List.set_cons_succ]
    rfl
  refine pure_ (i := 22) (N := some 53) (v := ?_) (a' := ?_) #[true, true, true, true, true, true, true, true, true, true, true, true, true, true, true, true, true, true, true, true, true, true, true, false, false, false, false, false, false, false, false, false] rfl rfl (by kernel_rfl) (fun _ _ _ h => h) (Or.inl ⟨by rfl, ?_⟩) ?_ ?_
  rotate_left
  · intro w'
    go_simp
    with_reducible rfl
  rotate_left
  · simp only [Act.put, List.setIfInBounds_toArray, List.set_cons_zero, List.set_cons_succ]
    rfl
  refine pure_ (i := 23) (N := some 54) (v := ?_) (a' := ?_) #[true, true, true, true, true, true, true, true, true, true, true, true, true, true, true, true, true, true, true, true, true, true, true, true, false, false, false, false, false, false, false, false] rfl rfl (by kernel_rfl) (fun _ _ _ h => h) (Or.inl ⟨by rfl, ?_⟩) ?_ ?_
  rotate_left
  · intro w'
    go_simp
    with_reducible rfl
  rotate_left
  · simp only [Act.put, List.setIfInBounds_toArray, List.set_cons_zero, List.set_cons_succ]
    rfl
  refine pure_ (i := 24) (N := some 55) (v := ?_) (a' := ?_) #[true, true, true, true, true, true, true, true, true, true, true, true, true, true, true, true, true, true, true, true, true, true, true, true, true, false, false, false, false, false, false, false] rfl rfl (by kernel_rfl) (fun _ _ _ h => h) (Or.inl ⟨by rfl, ?_⟩) ?_ ?_
  rotate_left
  · intro w'
    go_simp
    with_reducible rfl
  rotate_left
  · simp only [Act.put, List.setIfInBounds_toArray, List.set_cons_zero, List.set_cons_succ]
    rfl
  refine pure_ (i := 25) (N := some 56) (v := ?_) (a' := ?_) #[true, true, true, true, true, true, true, true, true, true, true, true, true, true, true, true, true, true, true, true, true, true, true, true, true, true, false, false, false, false, false, false] rfl rfl (by kernel_rfl) (fun _ _ _ h => h) (Or.inl ⟨by rfl, ?_⟩) ?_ ?_
  rotate_left
  · intro w'
    go_simp
    with_reducible rfl
  rotate_left
  · simp only [Act.put, List.setIfInBounds_toArray, List.set_cons_zero, List.set_cons_succ]
    rfl
  refine pure_ (i := 26) (N := some 57) (v := ?_) (a' := ?_) #[true, true, true, true, true, true, true, true, true, true, true, true, true, true, true, true, true, true, true, true, true, true, true, true, true, true, true, false, false, false, false, false] rfl rfl (by kernel_rfl) (fun _ _ _ h => h) (Or.inl ⟨by rfl, ?_⟩) ?_ ?_
  rotate_left
  · intro w'
    go_simp
    with_reducible rfl
  rotate_left
  · simp only [Act.put, List.setIfInBounds_toArray, List.set_cons_zero, List.set_cons_succ]
    rfl
  refine pure_ (i := 27) (N := some 58) (v := ?_) (a' := ?_) #[true, true, true, true, true, true, true, true, true, true, true, true, true, true, true, true, true, true, true, true, true, true, true, true, true, true, true, true, false, false, false, false] rfl rfl (by kernel_rfl) (fun _ _ _ h => h) (Or.inl ⟨by rfl, ?_⟩) ?_ ?_
  rotate_left
  · intro w'
    go_simp
    with_reducible rfl
  rotate_left
  · simp only [Act.put, List.setIfInBounds_toArray, List.set_cons_zero, List.set_cons_succ]
    rfl
  refine pure_ (i := 28) (N := some 59) (v := ?_) (a' := ?_) #[true, true, true, true, true, true, true, true, true, true, true, true, true, true, true, true, true, true, true, true, true, true, true, true, true, true, true, true, true, false, false, false] rfl rfl (by kernel_rfl) (fun _ _ _ h => h) (Or.inl ⟨by rfl, ?_⟩) ?_ ?_
  rotate_left
  · intro w'
    go_simp
    with_reducible rfl
  rotate_left
  · simp only [Act.put, List.setIfInBounds_toArray, List.set_cons_zero, List.set_cons_succ]
    rfl
  refine one_ (i := 29) (N := some 60) #[true, true, true, true, true, true, true, true, true, true, true, true, true, true, true, true, true, true, true, true, true, true, true, true, true, true, true, true, true, true, false, false] rfl rfl (by kernel_rfl) (by decide) (fun K hK => ?_)
  refine goes_ Try.func33 (by kernel_rfl) rfl #[.pointer (some ⟨b, 0, none⟩)] (by rfl) rfl rfl (by simp only [List.map_toArray, List.map_cons, List.map_nil]; rfl) ?_
  refine (HHELD.out W ⟨HBo.out⟩).mono ?_
  rintro e w3 ⟨rfl, HB3a⟩
  have HB3 : Hid (Below w2.heap.size w2 w3) := Lib.hid (HBo.out.trans (HB3a.out.mono HBo.out.size))
  refine ⟨_, rfl, ?_⟩
  refine hK.out _ _ ⟨pw_cell_below HB3a.out hHeld.1, pw_cell_below HB3a.out hHeld.2.1, pw_cell_below HB3a.out hHeld.2.2⟩ (fun hHeld => ?_)
  clear hK K
  refine norm_ (a' := ?_) ?_ ?_
  rotate_left
  · show Act.put _ (some 60) _ = _
    simp only [Act.put, List.setIfInBounds_toArray, List.set_cons_zero, List.set_cons_succ]
    rfl
  refine pure_ (i := 30) (N := some 61) (v := ?_) (a' := ?_) #[true, true, true, true, true, true, true, true, true, true, true, true, true, true, true, true, true, true, true, true, true, true, true, true, true, true, true, true, true, true, true, false] rfl rfl (by kernel_rfl) (fun _ _ _ h => h) (Or.inl ⟨by rfl, ?_⟩) ?_ ?_
  rotate_left
  · intro w'
    go_simp
    with_reducible rfl
  rotate_left
  · simp only [Act.put, List.setIfInBounds_toArray, List.set_cons_zero, List.set_cons_succ]
    rfl
  refine pure_ (i := 31) (N := some 62) (v := ?_) (a' := ?_) #[true, true, true, true, true, true, true, true, true, true, true, true, true, true, true, true, true, true, true, true, true, true, true, true, true, true, true, true, true, true, true, true] rfl rfl (by kernel_rfl) (fun _ _ _ h => h) (Or.inl ⟨by rfl, ?_⟩) ?_ ?_
  rotate_left
  · intro w'
    go_simp
    with_reducible rfl
  rotate_left
  · simp only [Act.put, List.setIfInBounds_toArray, List.set_cons_zero, List.set_cons_succ]
    rfl
  refine done_ (by kernel_rfl) ?_
  have y0 : w3.cell? ⟨b, 0, none⟩ = some (.slice Ar nq cr) := pw_cell_below HB3.out v0
  have y2 : w3.cell? ⟨b, 2, none⟩ = some (.int .i64 oR) := pw_cell_below HB3.out v2
  clear hHeld v0 v1 v2 v3 p0
  have HBK3 := Lib.hid (HB2.out.upd (S := fun _ => False) (by decide) (by decide) (by decide) (by decide) (Upd.of_below' HB3.out (fun _ _ => rfl)))
  have HU3 : Hid (Upd (2 ≤ ·) own w own w3) := Lib.hid (HU2.out.then (Upd.of_below' HB3.out (fun _ _ => rfl)))
  have hcr : nq ≤ cr := by rw [Hnq.out]; exact (Kd.R_reads' HBK3.out.hR).2.1
  obtain ⟨j, hj⟩ : ∃ j, j = oR + k := ⟨_, rfl⟩
  have hcut : ∀ W : World, (Instr.slice 38 (.slice Ar nq cr) (some (.int .i64 (oR : Int))) (some (.int .i64 (j : Int))) none).run Try.prog W = .ok (.slice (if cr = oR then Ar else Ar.map (·.add (oR * 6))) k (cr - oR)) W := by
    obtain ⟨i0, hi0, -, hi2, -⟩ := info_parts info33
    have := cut_mid (P := Try.prog) 38 33 .i64 .i64 Try.underlying38 hi0 6 hi2 Ar nq cr (oR : Int) (j : Int) (by omega) (by omega) (by omega) hcr
    rw [Int.toNat_natCast, Int.toNat_natCast, show j - oR = k by omega] at this
    exact this
  have hqs : (q.map (·.1)).length = nq := by rw [List.length_map, Hnq.out]
  have hmid : Kd.C k33 w3 (if cr = oR then Ar else Ar.map (·.add (oR * 6))) rs.length rs := by
    have h1 : Kd.C k33 w3 Ar (q.map (·.1)).length (q.map (·.1)) := by
      have := C_of_pk (Kd.R_reads' HBK3.out.hR).2.2
      rw [List.length_map]
      exact this
    have h2 := Kd.C_mid (lo := oR) (hi := oR + k) (c := cr) h1 (by omega) (by rw [hqs]; exact hk9) (by rw [hqs]; exact hcr)
    rw [List.drop_take, Nat.add_sub_cancel_left, Hk.out, ← HRS.out] at h2
    exact h2
  have hdr : rs.length ≤ cr - oR := by rw [← Hk.out]; omega
  have HSAME : Hid (∀ W : World, PLift (Below w3.heap.size w3 W) → Calls Try.prog 11 #[.slice A k ca, .slice (if cr = oR then Ar else Ar.map (·.add (oR * 6))) k (cr - oR)] W fun e w' => e = .returned (.bool true) ∧ Hid (Below W.heap.size W w')) := Lib.hid (fun W hW => by
    have := same11 rs A (if cr = oR then Ar else Ar.map (·.add (oR * 6))) ca (cr - oR) W (Kd.C_below (HC.out.upd (S := (2 ≤ ·)) (by decide) HU3.out).now hW.down) Hca.out (Kd.C_below hmid hW.down) hdr (by rw [← Hk.out]; omega) HP.out
    rw [← Hk.out] at this
    exact this)
  clear hmid hdr hqs
  generalize (if cr = oR then Ar else Ar.map (·.add (oR * 6))) = A' at *
  generalize cr - oR = c' at *
  have hadd : (oR : Int) + (k : Int) = (j : Int) := by omega
  have hj9 : j ≤ nq := by omega
  have hj8 : oR ≤ j := by omega
  have hwj : IntKind.i64.wrap (j : Int) = (j : Int) := by rw [IntKind.wrap_i64]; omega
  clear hj hk9
  go_upto_region 6 with (fail)
  refine start_ (n := 19) (S := (fun w' => w'.cell? ⟨b, 0, none⟩ = some (.slice Ar nq cr) ∧ w'.cell? ⟨b, 2, none⟩ = some (.int .i64 oR))) (ds := []) #[false, false, false, false, false, false, false, false, false, false, false, false, false, false, false, false, false, false, false] (by kernel_rfl) rfl rfl ⟨(show w3.drew.cell? _ = _ from y0), (show w3.drew.cell? _ = _ from y2)⟩ (fun hHeld => ?_)
  have HBo : Hid (Below w3.heap.size w3 w3.drew) := Lib.hid (Below.refl _ _).drew
  generalize w3.drew = W at hHeld HBo ⊢
  refine pure_ (i := 0) (N := some 63) (v := ?_) (a' := ?_) #[true, false, false, false, false, false, false, false, false, false, false, false, false, false, false, false, false, false, false] rfl rfl (by kernel_rfl) (fun _ _ _ h => h) (Or.inl ⟨by rfl, ?_⟩) ?_ ?_
  rotate_left
  · intro w'
    go_simp
    with_reducible rfl
  rotate_left
  · simp only [Act.put, List.setIfInBounds_toArray, List.set_cons_zero, List.set_cons_succ]
    rfl
  refine pure_ (i := 1) (N := some 64) (v := ?_) (a' := ?_) #[true, true, false, false, false, false, false, false, false, false, false, false, false, false, false, false, false, false, false] rfl rfl (by kernel_rfl) (fun _ _ _ h => h) (Or.inl ⟨by rfl, ?_⟩) ?_ ?_
  rotate_left
  · intro w'
    go_simp
    with_reducible rfl
  rotate_left
  · simp only [Act.put, List.setIfInBounds_toArray, List.set_cons_zero, List.set_cons_succ]
    rfl
  refine pure_ (i := 2) (N := some 65) (v := ?_) (a' := ?_) #[true, true, true, false, false, false, false, false, false, false, false, false, false, false, false, false, false, false, false] rfl rfl (by kernel_rfl) (fun _ _ _ h => h) (Or.inl ⟨by rfl, ?_⟩) ?_ ?_
  rotate_left
  · intro w'
    go_simp
    with_reducible rfl
  rotate_left
  · simp only [Act.put, List.setIfInBounds_toArray, List.set_cons_zero, List.set_cons_succ]
    rfl
  refine pure_ (i := 3) (N := some 66) (v := ?_) (a' := ?_) #[true, true, true, true, false, false, false, false, false, false, false, false, false, false, false, false, false, false, false] rfl rfl (by kernel_rfl) (fun _ _ _ h => h) (Or.inl ⟨by rfl, ?_⟩) ?_ ?_
  rotate_left
  · intro w'
    go_simp
    with_reducible rfl
  rotate_left
  · simp only [Act.put, List.setIfInBounds_toArray, List.set_cons_zero, List.set_cons_succ]
    rfl
  refine take_ (i := 4) (N := some 67) (v := ?_) (a' := ?_) #[true, true, true, true, true, false, false, false, false, false, false, false, false, false, false, false, false, false, false] rfl rfl (by kernel_rfl) (fun _ _ _ h => h) (Or.inl ⟨by rfl, ?_⟩) hHeld ?_ ?_
  rotate_left
  · rintro w' ⟨s0, s1⟩
    go_simp
    with_reducible rfl
  rotate_left
  · simp only [Act.put, List.setIfInBounds_toArray, List.set_cons_zero, List.set_cons_succ]
    rfl
  refine pure_ (i := 5) (N := some 68) (v := ?_) (a' := ?_) #[true, true, true, true, true, true, false, false, false, false, false, false, false, false, false, false, false, false, false] rfl rfl (by kernel_rfl) (fun _ _ _ h => h) (Or.inl ⟨by rfl, ?_⟩) ?_ ?_
  rotate_left
  · intro w'
    go_simp
    with_reducible rfl
  rotate_left
  · simp only [Act.put, List.setIfInBounds_toArray, List.set_cons_zero, List.set_cons_succ]
    rfl
  refine pure_ (i := 6) (N := some 69) (v := ?_) (a' := ?_) #[true, true, true, true, true, true, true, false, false, false, false, false, false, false, false, false, false, false, false] rfl rfl (by kernel_rfl) (fun _ _ _ h => h) (Or.inl ⟨by rfl, ?_⟩) ?_ ?_
  rotate_left
  · intro w'
    go_simp
    with_reducible rfl
  rotate_left
  · simp only [Act.put, List.setIfInBounds_toArray, List.set_cons_zero, List.set_cons_succ]
    rfl
  refine pure_ (i := 7) (N := some 70) (v := ?_) (a' := ?_) #[true, true, true, true, true, true, true, true, false, false, false, false, false, false, false, false, false, false, false] rfl rfl (by kernel_rfl) (fun _ _ _ h => h) (Or.inl ⟨by rfl, ?_⟩) ?_ ?_
  rotate_left
  · intro w'
    go_simp
    with_reducible rfl
  rotate_left
  · simp only [Act.put, List.setIfInBounds_toArray, List.set_cons_zero, List.set_cons_succ]
    rfl
  refine take_ (i := 8) (N := some 71) (v := ?_) (a' := ?_) #[true, true, true, true, true, true, true, true, true, false, false, false, false, false, false, false, false, false, false] rfl rfl (by kernel_rfl) (fun _ _ _ h => h) (Or.inl ⟨by rfl, ?_⟩) hHeld ?_ ?_
  rotate_left
  · rintro w' ⟨s0, s1⟩
    go_simp
    with_reducible rfl
  rotate_left
  · simp only [Act.put, List.setIfInBounds_toArray, List.set_cons_zero, List.set_cons_succ]
    rfl
  refine pure_ (i := 9) (N := some 72) (v := ?_) (a' := ?_) #[true, true, true, true, true, true, true, true, true, true, false, false, false, false, false, false, false, false, false] rfl rfl (by kernel_rfl) (fun _ _ _ h => h) (Or.inl ⟨by rfl, ?_⟩) ?_ ?_
  rotate_left
  · intro w'
    go_simp
    with_reducible rfl
  rotate_left
  · simp only [Act.put, List.setIfInBounds_toArray, List.set_cons_zero, List.set_cons_succ]
    rfl
  refine pure_ (i := 10) (N := some 73) (v := ?_) (a' := ?_) #[true, true, true, true, true, true, true, true, true, true, true, false, false, false, false, false, false, false, false] rfl rfl (by kernel_rfl) (fun _ _ _ h => h) (Or.inl ⟨by rfl, ?_⟩) ?_ ?_
  rotate_left
  · intro w'
    go_simp
    with_reducible rfl
  rotate_left
  · simp only [Act.put, List.setIfInBounds_toArray, List.set_cons_zero, List.set_cons_succ]
    rfl
  refine pure_ (i := 11) (N := some 74) (v := ?_) (a' := ?_) #[true, true, true, true, true, true, true, true, true, true, true, true, false, false, false, false, false, false, false] rfl rfl (by kernel_rfl) (fun _ _ _ h => h) (Or.inl ⟨by rfl, ?_⟩) ?_ ?_
  rotate_left
  · intro w'
    go_simp
    with_reducible rfl
  rotate_left
  · simp only [Act.put, List.setIfInBounds_toArray, List.set_cons_zero, List.set_cons_succ]
    rfl
  refine take_ (i := 12) (N := some 75) (v := ?_) (a' := ?_) #[true, true, true, true, true, true, true, true, true, true, true, true, true, false, false, false, false, false, false] rfl rfl (by kernel_rfl) (fun _ _ _ h => h) (Or.inl ⟨by rfl, ?_⟩) hHeld ?_ ?_
  rotate_left
  · rintro w' ⟨s0, s1⟩
    go_simp
    with_reducible rfl
  rotate_left
  · simp only [Act.put, List.setIfInBounds_toArray, List.set_cons_zero, List.set_cons_succ]
    rfl
  refine pure_ (i := 13) (N := some 76) (v := ?_) (a' := ?_) #[true, true, true, true, true, true, true, true, true, true, true, true, true, true, false, false, false, false, false] rfl rfl (by kernel_rfl) (fun _ _ _ h => h) (Or.inl ⟨by rfl, ?_⟩) ?_ ?_
  rotate_left
  · intro w'
    go_simp
    with_reducible rfl
  rotate_left
  · simp only [Act.put, List.setIfInBounds_toArray, List.set_cons_zero, List.set_cons_succ]
    rfl
  refine pure_ (i := 14) (N := some 77) (v := ?_) (a' := ?_) #[true, true, true, true, true, true, true, true, true, true, true, true, true, true, true, false, false, false, false] rfl rfl (by kernel_rfl) (fun _ _ _ h => h) (Or.inl ⟨by rfl, ?_⟩) ?_ ?_
  rotate_left
  · intro w'
    go_simp
    with_reducible rfl
  rotate_left
  · simp only [Act.put, List.setIfInBounds_toArray, List.set_cons_zero, List.set_cons_succ]
    rfl
  refine pure_ (i := 15) (N := some 78) (v := ?_) (a' := ?_) #[true, true, true, true, true, true, true, true, true, true, true, true, true, true, true, true, false, false, false] rfl rfl (by kernel_rfl) (fun _ _ _ h => h) (Or.inl ⟨by rfl, ?_⟩) ?_ ?_
  rotate_left
  · intro w'
    go_simp
    with_reducible rfl
  rotate_left
  · simp only [Act.put, List.setIfInBounds_toArray, List.set_cons_zero, List.set_cons_succ]
    rfl
  refine pure_ (i := 16) (N := some 79) (v := ?_) (a' := ?_) #[true, true, true, true, true, true, true, true, true, true, true, true, true, true, true, true, true, false, false] rfl rfl (by kernel_rfl) (fun _ _ _ h => h) (Or.inl ⟨by rfl, ?_⟩) ?_ ?_
  rotate_left
  · intro w'
    go_simp
    with_reducible rfl
  rotate_left
  · simp only [Act.put, List.setIfInBounds_toArray, List.set_cons_zero, List.set_cons_succ]
    rfl
  refine one_ (i := 17) (N := some 80) #[true, true, true, true, true, true, true, true, true, true, true, true, true, true, true, true, true, true, false] rfl rfl (by kernel_rfl) (by decide) (fun K hK => ?_)
  refine goes_ Try.func11 (by kernel_rfl) rfl #[.slice A k ca, .slice A' k c'] (by rfl) rfl rfl (by simp only [List.map_toArray, List.map_cons, List.map_nil]; rfl) ?_
  refine (HSAME.out W ⟨HBo.out⟩).mono ?_
  rintro e w4 ⟨rfl, HB4a⟩
  have HB4 : Hid (Below w3.heap.size w3 w4) := Lib.hid (HBo.out.trans (HB4a.out.mono HBo.out.size))
  refine ⟨_, rfl, ?_⟩
  refine hK.out _ _ ⟨pw_cell_below HB4a.out hHeld.1, pw_cell_below HB4a.out hHeld.2⟩ (fun hHeld => ?_)
  clear hK K
  refine norm_ (a' := ?_) ?_ ?_
  rotate_left
  · show Act.put _ (some 80) _ = _
    simp only [Act.put, List.setIfInBounds_toArray, List.set_cons_zero, List.set_cons_succ]
    rfl
  refine pure_ (i := 18) (N := some 6) (v := ?_) (a' := ?_) #[true, true, true, true, true, true, true, true, true, true, true, true, true, true, true, true, true, true, true] rfl rfl (by kernel_rfl) (fun _ _ _ h => h) (Or.inl ⟨by rfl, ?_⟩) ?_ ?_
  rotate_left
  · intro w'
    go_simp
    with_reducible rfl
  rotate_left
  · simp only [Act.put, List.setIfInBounds_toArray, List.set_cons_zero, List.set_cons_succ]
    rfl
  refine done_ (by kernel_rfl) ?_
  clear hHeld
  go_wp2_with (fail)
  go_ret
  obtain rfl := Ho1.out
  exact ⟨rfl, Lib.hid (HBK3.out.upd (S := fun _ => False) (by decide) (by decide) (by decide) (by decide) (Upd.of_below' HB4.out (fun _ _ => rfl))), Lib.hid (HU3.out.then (Upd.of_below' HB4.out (fun _ _ => rfl)))⟩
end Go.Proofs.Ytcbfddhdaamimaa.PLaneFifo
namespace Go.Proofs.Ytcbfddhdaamimaa.PLaneFifo
open Go.RowKit Go.Conc Go.Proofs.YtcbfddhdaamimaaW.PrintWords Go.Proofs.YtcbfddhdaamimaaW.PrintLast
set_option linter.unusedVariables false
set_option linter.unusedSimpArgs false

set_option maxRecDepth 100000 in
set_option maxHeartbeats 8000000 in
theorem in37_r (own : Nat → Nat) (w : World) (b : Nat) (q : List Pq) (ms : List Int) (oR oM : Nat) (Ar Am : Option Addr) (cr cm : Nat) (h : BookAt own w b q ms oR oM Ar cr Am cm) (hq9 : q.length ≤ 10000) (hm9 : ms.length ≤ 10000) (x : S35) (D5 : Option Addr) (e5' : Nat) (D6 : Option Addr) (e6' : Nat) (hx : St k35 own w x [.int .i64 x.f0, .string x.f1.f0, .int .i64 x.f1.f1.f0, .int .i64 x.f1.f1.f1, .string x.f1.f1.f2, .slice D5 x.f1.f1.f3.length e5', .slice D6 x.f1.f2.length e6']) (h0 : ¬ 0 < x.f0) :
    Calls Try.prog 37 #[.pointer (some ⟨b, 0, none⟩), .agg #[.int .i64 x.f0, .string x.f1.f0, .int .i64 x.f1.f1.f0, .int .i64 x.f1.f1.f1, .string x.f1.f1.f2, .slice D5 x.f1.f1.f3.length e5', .slice D6 x.f1.f2.length e6']] w fun e w' => e = .returned (.tuple #[]) ∧ ∃ own' A1 c1, Hid (BookAt own' w' b (q ++ [(x.f1, [.string x.f1.f0, .int .i64 x.f1.f1.f0, .int .i64 x.f1.f1.f1, .string x.f1.f1.f2, .slice D5 x.f1.f1.f3.length e5', .slice D6 x.f1.f2.length e6'])]) ms oR oM A1 c1 Am cm) ∧ Hid (Upd (2 ≤ ·) own w own' w') := by
  have HSX := Lib.hid (St33_of hx)
  have HB := Lib.hid h
  have HB1 : Hid (Below w.heap.size w (w.alloc (.cells #[.int .i64 x.f0, .string x.f1.f0, .int .i64 x.f1.f1.f0, .int .i64 x.f1.f1.f1, .string x.f1.f1.f2, .slice D5 x.f1.f1.f3.length e5', .slice D6 x.f1.f2.length e6'] 35))) := Lib.hid ((Below.refl _ _).alloc (Nat.le_refl _) _)
  have HE := Lib.hid (blk_new w (.cells #[.int .i64 x.f0, .string x.f1.f0, .int .i64 x.f1.f1.f0, .int .i64 x.f1.f1.f1, .string x.f1.f1.f2, .slice D5 x.f1.f1.f3.length e5', .slice D6 x.f1.f2.length e6'] 35))
  have q0' := blk_at (blk_alloc h.hb (.cells #[.int .i64 x.f0, .string x.f1.f0, .int .i64 x.f1.f1.f0, .int .i64 x.f1.f1.f1, .string x.f1.f1.f2, .slice D5 x.f1.f1.f3.length e5', .slice D6 x.f1.f2.length e6'] 35)) 0 rfl
  have k0 : decide (0 < x.f0) = false := decide_eq_false h0
  obtain ⟨n, hn⟩ : ∃ n, n = q.length := ⟨_, rfl⟩
  have HOw : Hid ((pk k33 own w).R 33 w 0 (fun k_ => own k_ = 3) (Value.slice Ar n cr) q) := Lib.hid (by rw [hn]; exact h.hR)
  rw [← hn] at q0' hq9
  have Hn := Lib.hid hn
  have H9 := Lib.hid hq9
  have H9' := Lib.hid hm9
  clear hx h hn
  go_enter Try.func37, Try.ntmps37
  go_upto_region 1 with (fail)
  generalize w.alloc (.cells #[.int .i64 x.f0, .string x.f1.f0, .int .i64 x.f1.f1.f0, .int .i64 x.f1.f1.f1, .string x.f1.f1.f2, .slice D5 x.f1.f1.f3.length e5', .slice D6 x.f1.f2.length e6'] 35) = w1 at *
  have q0 : w1.cell? ⟨b, 0, none⟩ = some (Value.slice Ar n cr) := q0'
  have y0 : w1.cell? ⟨w.heap.size, 0, none⟩ = some (.int .i64 x.f0) := blk_at HE.out 0 rfl
  clear q0'
  go_upto_region 3 with (fail)
  clear y0
  refine start_ (n := 12) (S := (fun w' => w'.cell? ⟨b, 0, none⟩ = some (Value.slice Ar n cr) ∧ w'.cell? ⟨w.heap.size, 0, none⟩ = some (.int .i64 x.f0) ∧ w'.cell? ⟨w.heap.size, 1, none⟩ = some (.string x.f1.f0) ∧ w'.cell? ⟨w.heap.size, 2, none⟩ = some (.int .i64 x.f1.f1.f0) ∧ w'.cell? ⟨w.heap.size, 3, none⟩ = some (.int .i64 x.f1.f1.f1) ∧ w'.cell? ⟨w.heap.size, 4, none⟩ = some (.string x.f1.f1.f2) ∧ w'.cell? ⟨w.heap.size, 5, none⟩ = some (.slice D5 x.f1.f1.f3.length e5') ∧ w'.cell? ⟨w.heap.size, 6, none⟩ = some (.slice D6 x.f1.f2.length e6'))) (ds := [11]) #[false, false, false, false, false, false, false, false, false, false, false, false] (by kernel_rfl) rfl rfl ⟨(show w1.drew.cell? _ = _ from q0), (show w1.drew.cell? _ = _ from blk_at HE.out 0 rfl), (show w1.drew.cell? _ = _ from blk_at HE.out 1 rfl), (show w1.drew.cell? _ = _ from blk_at HE.out 2 rfl), (show w1.drew.cell? _ = _ from blk_at HE.out 3 rfl), (show w1.drew.cell? _ = _ from blk_at HE.out 4 rfl), (show w1.drew.cell? _ = _ from blk_at HE.out 5 rfl), (show w1.drew.cell? _ = _ from blk_at HE.out 6 rfl)⟩ (fun hHeld => ?_)
  have HBo : Hid (Below w.heap.size w w1.drew) := Lib.hid HB1.out.drew
  have HEW : Hid (w1.drew.heap[w.heap.size]? = some (.cells #[.int .i64 x.f0, .string x.f1.f0, .int .i64 x.f1.f1.f0, .int .i64 x.f1.f1.f1, .string x.f1.f1.f2, .slice D5 x.f1.f1.f3.length e5', .slice D6 x.f1.f2.length e6'] 35 (0, 0))) := Lib.hid (blk_drew HE.out)
  generalize w1.drew = W at hHeld HBo HEW ⊢
  have HOW : Hid ((pk k33 own w).R 33 W 0 (fun k_ => fresh own w 3 k_ = 3) (Value.slice Ar n cr) q) := Lib.hid (R_upd HOw.out (S := fun _ => False) (by decide) (Upd.of_below HBo.out 3))
  refine pure_ (i := 0) (N := some 18) (v := ?_) (a' := ?_) #[true, false, false, false, false, false, false, false, false, false, false, false] rfl rfl (by kernel_rfl) (fun _ _ _ h => h) (Or.inl ⟨by rfl, ?_⟩) ?_ ?_
  rotate_left
  · intro w'
    go_simp
    with_reducible rfl
  rotate_left
  · simp only [Act.put, List.setIfInBounds_toArray, List.set_cons_zero, List.set_cons_succ]
    rfl
  refine pure_ (i := 1) (N := some 19) (v := ?_) (a' := ?_) #[true, true, false, false, false, false, false, false, false, false, false, false] rfl rfl (by kernel_rfl) (fun _ _ _ h => h) (Or.inl ⟨by rfl, ?_⟩) ?_ ?_
  rotate_left
  · intro w'
    go_simp
    with_reducible rfl
  rotate_left
  · simp only [Act.put, List.setIfInBounds_toArray, List.set_cons_zero, List.set_cons_succ]
    rfl
  refine pure_ (i := 2) (N := some 20) (v := ?_) (a' := ?_) #[true, true, true, false, false, false, false, false, false, false, false, false] rfl rfl (by kernel_rfl) (fun _ _ _ h => h) (Or.inl ⟨by rfl, ?_⟩) ?_ ?_
  rotate_left
  · intro w'
    go_simp
    with_reducible rfl
  rotate_left
  · simp only [Act.put, List.setIfInBounds_toArray, List.set_cons_zero, List.set_cons_succ]
    rfl
  refine pure_ (i := 3) (N := some 21) (v := ?_) (a' := ?_) #[true, true, true, true, false, false, false, false, false, false, false, false] rfl rfl (by kernel_rfl) (fun _ _ _ h => h) (Or.inl ⟨by rfl, ?_⟩) ?_ ?_
  rotate_left
  · intro w'
    go_simp
    with_reducible rfl
  rotate_left
  · simp only [Act.put, List.setIfInBounds_toArray, List.set_cons_zero, List.set_cons_succ]
    rfl
  refine take_ (i := 4) (N := some 22) (v := ?_) (a' := ?_) #[true, true, true, true, true, false, false, false, false, false, false, false] rfl rfl (by kernel_rfl) (fun _ _ _ h => h) (Or.inl ⟨by rfl, ?_⟩) hHeld ?_ ?_
  rotate_left
  · rintro w' ⟨s0, s1, s2, s3, s4, s5, s6, s7⟩
    go_simp
    with_reducible rfl
  rotate_left
  · simp only [Act.put, List.setIfInBounds_toArray, List.set_cons_zero, List.set_cons_succ]
    rfl
  refine pure_ (i := 5) (N := some 23) (v := ?_) (a' := ?_) #[true, true, true, true, true, true, false, false, false, false, false, false] rfl rfl (by kernel_rfl) (fun _ _ _ h => h) (Or.inl ⟨by rfl, ?_⟩) ?_ ?_
  rotate_left
  · intro w'
    go_simp
    with_reducible rfl
  rotate_left
  · simp only [Act.put, List.setIfInBounds_toArray, List.set_cons_zero, List.set_cons_succ]
    rfl
  refine take_ (i := 6) (N := some 24) (v := ?_) (a' := ?_) #[true, true, true, true, true, true, true, false, false, false, false, false] rfl rfl (by kernel_rfl) (fun _ _ _ h => h) (Or.inl ⟨by rfl, ?_⟩) hHeld ?_ ?_
  rotate_left
  · rintro w' ⟨s0, s1, s2, s3, s4, s5, s6, s7⟩
    go_simp
    with_reducible rfl
  rotate_left
  · simp only [Act.put, List.setIfInBounds_toArray, List.set_cons_zero, List.set_cons_succ]
    rfl
  refine one_ (i := 7) (N := some 25) #[true, true, true, true, true, true, true, true, false, false, false, false] rfl rfl (by kernel_rfl) (by decide) (fun K hK => ?_)
  refine value_ (w1 := ?_) (v := ?_) (by rfl) rfl ?_ ?_
  rotate_left 2
  · go_simp
    constructor
    · rfl
    · rfl
  refine hK.out _ _ ⟨pw_cell_below ((Below.refl _ _).alloc (Nat.le_refl _) _) hHeld.1, pw_cell_below ((Below.refl _ _).alloc (Nat.le_refl _) _) hHeld.2.1, pw_cell_below ((Below.refl _ _).alloc (Nat.le_refl _) _) hHeld.2.2.1, pw_cell_below ((Below.refl _ _).alloc (Nat.le_refl _) _) hHeld.2.2.2.1, pw_cell_below ((Below.refl _ _).alloc (Nat.le_refl _) _) hHeld.2.2.2.2.1, pw_cell_below ((Below.refl _ _).alloc (Nat.le_refl _) _) hHeld.2.2.2.2.2.1, pw_cell_below ((Below.refl _ _).alloc (Nat.le_refl _) _) hHeld.2.2.2.2.2.2.1, pw_cell_below ((Below.refl _ _).alloc (Nat.le_refl _) _) hHeld.2.2.2.2.2.2.2⟩ (fun hHeld => ?_)
  clear hK K
  refine norm_ (a' := ?_) ?_ ?_
  rotate_left
  · show Act.put _ (some 25) _ = _
    simp only [Act.put, List.setIfInBounds_toArray, List.set_cons_zero, List.set_cons_succ]
    rfl
  refine one_ (i := 8) (N := some 26) #[true, true, true, true, true, true, true, true, true, false, false, false] rfl rfl (by kernel_rfl) (by decide) (fun K hK => ?_)
  refine Kd.R_append_step (pk k33 own w) (w0 := W) 0 (by rfl) (.tmp 22) (.tmp 25) 38 33 (.agg #[.string ⟨#[]⟩, .int .i64 0, .int .i64 0, .string ⟨#[]⟩, .slice none 0 0, .slice none 0 0]) 96 rfl Try.underlying38 info33 rfl (show 0 < 6 by decide) (by decide) (Value.slice Ar n cr) q (x.f1, [.string x.f1.f0, .int .i64 x.f1.f1.f0, .int .i64 x.f1.f1.f1, .string x.f1.f1.f2, .slice D5 x.f1.f1.f3.length e5', .slice D6 x.f1.f2.length e6']) _ (fun k_ => fresh own w 3 k_ = 3) (fun k_ => fresh own w 3 k_ = 3 ∧ some k_ ≠ (Value.slice Ar n cr).ownBlock) rfl rfl ?hp (fun _ hk => hk) ?hfr HOW.out (Below.refl _ _) (Nat.zero_le _) ?hl ?_
  case hp => exact ⟨rfl, HSX.out⟩
  case hfr => exact fun k_ hk => fresh_new (Nat.le_trans HBo.out.size hk)
  case hl => have := Hn.out; omega
  intro v1 w4 hO4 hB4 hg4 hat4
  obtain ⟨A1, c1, hv1⟩ := Kd.R_slice hO4
  rw [List.length_append, ← Hn.out] at hv1
  subst hv1
  have HA := Lib.hid (HB.out.addR HBo.out (by rw [← Hn.out]; exact hg4) (x.f1, [.string x.f1.f0, .int .i64 x.f1.f1.f0, .int .i64 x.f1.f1.f1, .string x.f1.f1.f2, .slice D5 x.f1.f1.f3.length e5', .slice D6 x.f1.f2.length e6']) (by rw [← Hn.out]; exact hO4))
  have hb4 : w4.heap[b]? = some _ := blk_grown ((HBo.out.block b (blk_lt HB.out.hb)).trans HB.out.hb) hg4 (by have := HB.out.ne.2.2.1; rw [← Hn.out] at this; exact this)
  have hx4 : w4.heap[w.heap.size]? = some _ := blk_grown HEW.out hg4 (fun he => by have := Kd.R_lt HOw.out _ he.symm; omega)
  rw [← Hn.out] at hb4
  have HFZ := Lib.hid (blk_frozen hb4 0)
  rw [← Hn.out] at HA
  refine hK.out _ _ ⟨blk_at hb4 0 rfl, blk_at hx4 0 rfl, blk_at hx4 1 rfl, blk_at hx4 2 rfl, blk_at hx4 3 rfl, blk_at hx4 4 rfl, blk_at hx4 5 rfl, blk_at hx4 6 rfl⟩ (fun hHeld => ?_)
  clear hK K hO4 hB4 hg4 hat4 hb4 hx4
  refine norm_ (a' := ?_) ?_ ?_
  rotate_left
  · show Act.put _ (some 26) _ = _
    simp only [Act.put, List.setIfInBounds_toArray, List.set_cons_zero, List.set_cons_succ]
    rfl
  refine pure_ (i := 9) (N := some 27) (v := ?_) (a' := ?_) #[true, true, true, true, true, true, true, true, true, true, false, false] rfl rfl (by kernel_rfl) (fun _ _ _ h => h) (Or.inl ⟨by rfl, ?_⟩) ?_ ?_
  rotate_left
  · intro w'
    go_simp
    with_reducible rfl
  rotate_left
  · simp only [Act.put, List.setIfInBounds_toArray, List.set_cons_zero, List.set_cons_succ]
    rfl
  refine pure_ (i := 10) (N := some 28) (v := ?_) (a' := ?_) #[true, true, true, true, true, true, true, true, true, true, true, false] rfl rfl (by kernel_rfl) (fun _ _ _ h => h) (Or.inl ⟨by rfl, ?_⟩) ?_ ?_
  rotate_left
  · intro w'
    go_simp
    with_reducible rfl
  rotate_left
  · simp only [Act.put, List.setIfInBounds_toArray, List.set_cons_zero, List.set_cons_succ]
    rfl
  refine last_ (i := 11) (N := none) #[true, true, true, true, true, true, true, true, true, true, true, true] rfl rfl (by kernel_rfl) (by decide) (fun K hK => ?_)
  have hs := hHeld.1
  have hf := HFZ.out
  refine skip_ (w1 := ?_) (by rfl) rfl ?_ ?_
  rotate_left
  · go_simp
    rfl
  refine hK.out _ _ ?_
  clear hK K hs hf
  refine done_ (by kernel_rfl) ?_
  clear hHeld
  go_wp2_with (fail)
  go_end0
  first
  | exact ⟨rfl, _, ⟨A1, c1, Lib.hid HA.out.1⟩, Lib.hid HA.out.2⟩
  | exact ⟨rfl, _, A1, ⟨c1, Lib.hid HA.out.1⟩, Lib.hid HA.out.2⟩
  | exact ⟨rfl, _, A1, c1, Lib.hid HA.out.1, Lib.hid HA.out.2⟩
set_option maxRecDepth 100000 in
set_option maxHeartbeats 8000000 in
theorem in37_m (own : Nat → Nat) (w : World) (b : Nat) (q : List Pq) (ms : List Int) (oR oM : Nat) (Ar Am : Option Addr) (cr cm : Nat) (h : BookAt own w b q ms oR oM Ar cr Am cm) (hq9 : q.length ≤ 10000) (hm9 : ms.length ≤ 10000) (x : S35) (D5 : Option Addr) (e5' : Nat) (D6 : Option Addr) (e6' : Nat) (hx : St k35 own w x [.int .i64 x.f0, .string x.f1.f0, .int .i64 x.f1.f1.f0, .int .i64 x.f1.f1.f1, .string x.f1.f1.f2, .slice D5 x.f1.f1.f3.length e5', .slice D6 x.f1.f2.length e6']) (h0 : 0 < x.f0) :
    Calls Try.prog 37 #[.pointer (some ⟨b, 0, none⟩), .agg #[.int .i64 x.f0, .string x.f1.f0, .int .i64 x.f1.f1.f0, .int .i64 x.f1.f1.f1, .string x.f1.f1.f2, .slice D5 x.f1.f1.f3.length e5', .slice D6 x.f1.f2.length e6']] w fun e w' => e = .returned (.tuple #[]) ∧ ∃ own' A1 c1, Hid (BookAt own' w' b q (ms ++ [x.f0]) oR oM Ar cr A1 c1) ∧ Hid (Upd (2 ≤ ·) own w own' w') := by
  have HSX := Lib.hid (St33_of hx)
  have HB := Lib.hid h
  have HB1 : Hid (Below w.heap.size w (w.alloc (.cells #[.int .i64 x.f0, .string x.f1.f0, .int .i64 x.f1.f1.f0, .int .i64 x.f1.f1.f1, .string x.f1.f1.f2, .slice D5 x.f1.f1.f3.length e5', .slice D6 x.f1.f2.length e6'] 35))) := Lib.hid ((Below.refl _ _).alloc (Nat.le_refl _) _)
  have HE := Lib.hid (blk_new w (.cells #[.int .i64 x.f0, .string x.f1.f0, .int .i64 x.f1.f1.f0, .int .i64 x.f1.f1.f1, .string x.f1.f1.f2, .slice D5 x.f1.f1.f3.length e5', .slice D6 x.f1.f2.length e6'] 35))
  have q0' := blk_at (blk_alloc h.hb (.cells #[.int .i64 x.f0, .string x.f1.f0, .int .i64 x.f1.f1.f0, .int .i64 x.f1.f1.f1, .string x.f1.f1.f2, .slice D5 x.f1.f1.f3.length e5', .slice D6 x.f1.f2.length e6'] 35)) 1 rfl
  have k0 : decide (0 < x.f0) = true := decide_eq_true h0
  obtain ⟨n, hn⟩ : ∃ n, n = ms.length := ⟨_, rfl⟩
  have HOw : Hid ((Kd.int .i64).R 3 w 0 (fun k_ => own k_ = 4) (Value.slice Am n cm) ms) := Lib.hid (by rw [hn]; exact h.hM)
  rw [← hn] at q0' hm9
  have Hn := Lib.hid hn
  have H9 := Lib.hid hq9
  have H9' := Lib.hid hm9
  clear hx h hn
  go_enter Try.func37, Try.ntmps37
  go_upto_region 1 with (fail)
  generalize w.alloc (.cells #[.int .i64 x.f0, .string x.f1.f0, .int .i64 x.f1.f1.f0, .int .i64 x.f1.f1.f1, .string x.f1.f1.f2, .slice D5 x.f1.f1.f3.length e5', .slice D6 x.f1.f2.length e6'] 35) = w1 at *
  have q0 : w1.cell? ⟨b, 1, none⟩ = some (Value.slice Am n cm) := q0'
  have y0 : w1.cell? ⟨w.heap.size, 0, none⟩ = some (.int .i64 x.f0) := blk_at HE.out 0 rfl
  clear q0'
  go_upto_region 2 with (fail)
  clear y0
  refine start_ (n := 12) (S := (fun w' => w'.cell? ⟨b, 1, none⟩ = some (Value.slice Am n cm) ∧ w'.cell? ⟨w.heap.size, 0, none⟩ = some (.int .i64 x.f0) ∧ w'.cell? ⟨w.heap.size, 1, none⟩ = some (.string x.f1.f0) ∧ w'.cell? ⟨w.heap.size, 2, none⟩ = some (.int .i64 x.f1.f1.f0) ∧ w'.cell? ⟨w.heap.size, 3, none⟩ = some (.int .i64 x.f1.f1.f1) ∧ w'.cell? ⟨w.heap.size, 4, none⟩ = some (.string x.f1.f1.f2) ∧ w'.cell? ⟨w.heap.size, 5, none⟩ = some (.slice D5 x.f1.f1.f3.length e5') ∧ w'.cell? ⟨w.heap.size, 6, none⟩ = some (.slice D6 x.f1.f2.length e6'))) (ds := [11]) #[false, false, false, false, false, false, false, false, false, false, false, false] (by kernel_rfl) rfl rfl ⟨(show w1.drew.cell? _ = _ from q0), (show w1.drew.cell? _ = _ from blk_at HE.out 0 rfl), (show w1.drew.cell? _ = _ from blk_at HE.out 1 rfl), (show w1.drew.cell? _ = _ from blk_at HE.out 2 rfl), (show w1.drew.cell? _ = _ from blk_at HE.out 3 rfl), (show w1.drew.cell? _ = _ from blk_at HE.out 4 rfl), (show w1.drew.cell? _ = _ from blk_at HE.out 5 rfl), (show w1.drew.cell? _ = _ from blk_at HE.out 6 rfl)⟩ (fun hHeld => ?_)
  have HBo : Hid (Below w.heap.size w w1.drew) := Lib.hid HB1.out.drew
  have HEW : Hid (w1.drew.heap[w.heap.size]? = some (.cells #[.int .i64 x.f0, .string x.f1.f0, .int .i64 x.f1.f1.f0, .int .i64 x.f1.f1.f1, .string x.f1.f1.f2, .slice D5 x.f1.f1.f3.length e5', .slice D6 x.f1.f2.length e6'] 35 (0, 0))) := Lib.hid (blk_drew HE.out)
  generalize w1.drew = W at hHeld HBo HEW ⊢
  have HOW : Hid ((Kd.int .i64).R 3 W 0 (fun k_ => fresh own w 4 k_ = 4) (Value.slice Am n cm) ms) := Lib.hid (R_upd HOw.out (S := fun _ => False) (by decide) (Upd.of_below HBo.out 4))
  refine pure_ (i := 0) (N := some 7) (v := ?_) (a' := ?_) #[true, false, false, false, false, false, false, false, false, false, false, false] rfl rfl (by kernel_rfl) (fun _ _ _ h => h) (Or.inl ⟨by rfl, ?_⟩) ?_ ?_
  rotate_left
  · intro w'
    go_simp
    with_reducible rfl
  rotate_left
  · simp only [Act.put, List.setIfInBounds_toArray, List.set_cons_zero, List.set_cons_succ]
    rfl
  refine pure_ (i := 1) (N := some 8) (v := ?_) (a' := ?_) #[true, true, false, false, false, false, false, false, false, false, false, false] rfl rfl (by kernel_rfl) (fun _ _ _ h => h) (Or.inl ⟨by rfl, ?_⟩) ?_ ?_
  rotate_left
  · intro w'
    go_simp
    with_reducible rfl
  rotate_left
  · simp only [Act.put, List.setIfInBounds_toArray, List.set_cons_zero, List.set_cons_succ]
    rfl
  refine pure_ (i := 2) (N := some 9) (v := ?_) (a' := ?_) #[true, true, true, false, false, false, false, false, false, false, false, false] rfl rfl (by kernel_rfl) (fun _ _ _ h => h) (Or.inl ⟨by rfl, ?_⟩) ?_ ?_
  rotate_left
  · intro w'
    go_simp
    with_reducible rfl
  rotate_left
  · simp only [Act.put, List.setIfInBounds_toArray, List.set_cons_zero, List.set_cons_succ]
    rfl
  refine pure_ (i := 3) (N := some 10) (v := ?_) (a' := ?_) #[true, true, true, true, false, false, false, false, false, false, false, false] rfl rfl (by kernel_rfl) (fun _ _ _ h => h) (Or.inl ⟨by rfl, ?_⟩) ?_ ?_
  rotate_left
  · intro w'
    go_simp
    with_reducible rfl
  rotate_left
  · simp only [Act.put, List.setIfInBounds_toArray, List.set_cons_zero, List.set_cons_succ]
    rfl
  refine take_ (i := 4) (N := some 11) (v := ?_) (a' := ?_) #[true, true, true, true, true, false, false, false, false, false, false, false] rfl rfl (by kernel_rfl) (fun _ _ _ h => h) (Or.inl ⟨by rfl, ?_⟩) hHeld ?_ ?_
  rotate_left
  · rintro w' ⟨s0, s1, s2, s3, s4, s5, s6, s7⟩
    go_simp
    with_reducible rfl
  rotate_left
  · simp only [Act.put, List.setIfInBounds_toArray, List.set_cons_zero, List.set_cons_succ]
    rfl
  refine pure_ (i := 5) (N := some 12) (v := ?_) (a' := ?_) #[true, true, true, true, true, true, false, false, false, false, false, false] rfl rfl (by kernel_rfl) (fun _ _ _ h => h) (Or.inl ⟨by rfl, ?_⟩) ?_ ?_
  rotate_left
  · intro w'
    go_simp
    with_reducible rfl
  rotate_left
  · simp only [Act.put, List.setIfInBounds_toArray, List.set_cons_zero, List.set_cons_succ]
    rfl
  refine take_ (i := 6) (N := some 13) (v := ?_) (a' := ?_) #[true, true, true, true, true, true, true, false, false, false, false, false] rfl rfl (by kernel_rfl) (fun _ _ _ h => h) (Or.inl ⟨by rfl, ?_⟩) hHeld ?_ ?_
  rotate_left
  · rintro w' ⟨s0, s1, s2, s3, s4, s5, s6, s7⟩
    go_simp
    with_reducible rfl
  rotate_left
  · simp only [Act.put, List.setIfInBounds_toArray, List.set_cons_zero, List.set_cons_succ]
    rfl
  refine one_ (i := 7) (N := some 14) #[true, true, true, true, true, true, true, true, false, false, false, false] rfl rfl (by kernel_rfl) (by decide) (fun K hK => ?_)
  refine value_ (w1 := ?_) (v := ?_) (by rfl) rfl ?_ ?_
  rotate_left 2
  · go_simp
    constructor
    · rfl
    · rfl
  refine hK.out _ _ ⟨pw_cell_below ((Below.refl _ _).alloc (Nat.le_refl _) _) hHeld.1, pw_cell_below ((Below.refl _ _).alloc (Nat.le_refl _) _) hHeld.2.1, pw_cell_below ((Below.refl _ _).alloc (Nat.le_refl _) _) hHeld.2.2.1, pw_cell_below ((Below.refl _ _).alloc (Nat.le_refl _) _) hHeld.2.2.2.1, pw_cell_below ((Below.refl _ _).alloc (Nat.le_refl _) _) hHeld.2.2.2.2.1, pw_cell_below ((Below.refl _ _).alloc (Nat.le_refl _) _) hHeld.2.2.2.2.2.1, pw_cell_below ((Below.refl _ _).alloc (Nat.le_refl _) _) hHeld.2.2.2.2.2.2.1, pw_cell_below ((Below.refl _ _).alloc (Nat.le_refl _) _) hHeld.2.2.2.2.2.2.2⟩ (fun hHeld => ?_)
  clear hK K
  refine norm_ (a' := ?_) ?_ ?_
  rotate_left
  · show Act.put _ (some 14) _ = _
    simp only [Act.put, List.setIfInBounds_toArray, List.set_cons_zero, List.set_cons_succ]
    rfl
  refine one_ (i := 8) (N := some 15) #[true, true, true, true, true, true, true, true, true, false, false, false] rfl rfl (by kernel_rfl) (by decide) (fun K hK => ?_)
  refine Kd.R_append_step (Kd.int .i64) (w0 := W) 0 (by rfl) (.tmp 11) (.tmp 14) 31 3 (.int .i64 0) 8 rfl Try.underlying31 info3 rfl (by decide) (by decide) (Value.slice Am n cm) ms x.f0 _ (fun k_ => fresh own w 4 k_ = 4) (fun k_ => fresh own w 4 k_ = 4 ∧ some k_ ≠ (Value.slice Am n cm).ownBlock) rfl rfl ?hp (fun _ hk => hk) ?hfr HOW.out (Below.refl _ _) (Nat.zero_le _) ?hl ?_
  case hp => exact rfl
  case hfr => exact fun k_ hk => fresh_new (Nat.le_trans HBo.out.size hk)
  case hl => have := Hn.out; omega
  intro v1 w4 hO4 hB4 hg4 hat4
  obtain ⟨A1, c1, hv1⟩ := Kd.R_slice hO4
  rw [List.length_append, ← Hn.out] at hv1
  subst hv1
  have HA := Lib.hid (HB.out.addM HBo.out (by rw [← Hn.out]; exact hg4) x.f0 (by rw [← Hn.out]; exact hO4))
  have hb4 : w4.heap[b]? = some _ := blk_grown ((HBo.out.block b (blk_lt HB.out.hb)).trans HB.out.hb) hg4 (by have := HB.out.ne.2.2.2; rw [← Hn.out] at this; exact this)
  have hx4 : w4.heap[w.heap.size]? = some _ := blk_grown HEW.out hg4 (fun he => by have := Kd.R_lt HOw.out _ he.symm; omega)
  rw [← Hn.out] at hb4
  have HFZ := Lib.hid (blk_frozen hb4 1)
  rw [← Hn.out] at HA
  refine hK.out _ _ ⟨blk_at hb4 1 rfl, blk_at hx4 0 rfl, blk_at hx4 1 rfl, blk_at hx4 2 rfl, blk_at hx4 3 rfl, blk_at hx4 4 rfl, blk_at hx4 5 rfl, blk_at hx4 6 rfl⟩ (fun hHeld => ?_)
  clear hK K hO4 hB4 hg4 hat4 hb4 hx4
  refine norm_ (a' := ?_) ?_ ?_
  rotate_left
  · show Act.put _ (some 15) _ = _
    simp only [Act.put, List.setIfInBounds_toArray, List.set_cons_zero, List.set_cons_succ]
    rfl
  refine pure_ (i := 9) (N := some 16) (v := ?_) (a' := ?_) #[true, true, true, true, true, true, true, true, true, true, false, false] rfl rfl (by kernel_rfl) (fun _ _ _ h => h) (Or.inl ⟨by rfl, ?_⟩) ?_ ?_
  rotate_left
  · intro w'
    go_simp
    with_reducible rfl
  rotate_left
  · simp only [Act.put, List.setIfInBounds_toArray, List.set_cons_zero, List.set_cons_succ]
    rfl
  refine pure_ (i := 10) (N := some 17) (v := ?_) (a' := ?_) #[true, true, true, true, true, true, true, true, true, true, true, false] rfl rfl (by kernel_rfl) (fun _ _ _ h => h) (Or.inl ⟨by rfl, ?_⟩) ?_ ?_
  rotate_left
  · intro w'
    go_simp
    with_reducible rfl
  rotate_left
  · simp only [Act.put, List.setIfInBounds_toArray, List.set_cons_zero, List.set_cons_succ]
    rfl
  refine last_ (i := 11) (N := none) #[true, true, true, true, true, true, true, true, true, true, true, true] rfl rfl (by kernel_rfl) (by decide) (fun K hK => ?_)
  have hs := hHeld.1
  have hf := HFZ.out
  refine skip_ (w1 := ?_) (by rfl) rfl ?_ ?_
  rotate_left
  · go_simp
    rfl
  refine hK.out _ _ ?_
  clear hK K hs hf
  refine done_ (by kernel_rfl) ?_
  clear hHeld
  go_wp2_with (fail)
  go_end0
  first
  | exact ⟨rfl, _, ⟨A1, c1, Lib.hid HA.out.1⟩, Lib.hid HA.out.2⟩
  | exact ⟨rfl, _, A1, ⟨c1, Lib.hid HA.out.1⟩, Lib.hid HA.out.2⟩
  | exact ⟨rfl, _, A1, c1, Lib.hid HA.out.1, Lib.hid HA.out.2⟩
end Go.Proofs.Ytcbfddhdaamimaa.PLaneFifo
