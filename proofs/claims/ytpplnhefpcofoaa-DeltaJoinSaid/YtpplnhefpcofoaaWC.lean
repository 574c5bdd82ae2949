/- DeltaAssoc, walked. -/
import Derived.Test.YtpplnhefpcofoaaWB
namespace Go.Proofs.Ytpplnhefpcofoaa.PDeltaJoin
open Go.RowKit Go.Proofs.YtpplnhefpcofoaaW.PrintWords Go.Proofs.YtpplnhefpcofoaaW.PrintLast
set_option linter.unusedVariables false
set_option linter.unusedSimpArgs false

/-- Three deltas laid as a slice. -/
theorem lit3 (d e f : S27) (A1 B1 A2 B2 A3 B3 : Option Addr) (c1 k1 c2 k2 c3 k3 : Nat) (w : World) (b : Nat) (h1 : Kd.C k63 w A1 d.f1.length d.f1) (h2 : Kd.C Kd.string w B1 d.f2.length d.f2) (h3 : Kd.C k63 w A2 e.f1.length e.f1) (h4 : Kd.C Kd.string w B2 e.f2.length e.f2) (h5 : Kd.C k63 w A3 f.f1.length f.f1) (h6 : Kd.C Kd.string w B3 f.f2.length f.f2)
    (l1 : d.f1.length ≤ c1) (l2 : d.f2.length ≤ k1) (l3 : e.f1.length ≤ c2) (l4 : e.f2.length ≤ k2) (l5 : f.f1.length ≤ c3) (l6 : f.f2.length ≤ k3)
    (hb : w.heap[b]? = some (.cells #[.int .i64 d.f0, .slice A1 d.f1.length c1, .slice B1 d.f2.length k1, .int .i64 e.f0, .slice A2 e.f1.length c2, .slice B2 e.f2.length k2, .int .i64 f.f0, .slice A3 f.f1.length c3, .slice B3 f.f2.length k3] 27 (0, 0))) : Kd.C k27 w (some ⟨b, 0, none⟩) [d, e, f].length [d, e, f] := by
  refine lit_C k27 (inner := [.int .i64 d.f0, .slice A1 d.f1.length c1, .slice B1 d.f2.length k1, .int .i64 e.f0, .slice A2 e.f1.length c2, .slice B2 e.f2.length k2, .int .i64 f.f0, .slice A3 f.f1.length c3, .slice B3 f.f2.length k3]) ?_ hb (by simp)
  have m1 := k27_mk w d l1 h1 l2 h2
  have m2 := k27_mk w e l3 h3 l4 h4
  have m3 := k27_mk w f l5 h5 l6 h6
  have r1 := Reps.snoc (Reps.none _ k27.sz) m1 rfl
  have r2 := Reps.snoc r1 m2 rfl
  exact Reps.snoc r2 m3 rfl
def Law (w : World) (e : Ending) (w' : World) : Prop := e = .returned (.bool true) ∧ Below w.heap.size w w'
set_option maxRecDepth 100000 in
set_option maxHeartbeats 16000000 in
theorem deltaAssoc_walk (d e f : S27) (A1 B1 A2 B2 A3 B3 : Option Addr) (c1 k1 c2 k2 c3 k3 : Nat) (w : World) (h1 : Kd.C k63 w A1 d.f1.length d.f1) (h2 : Kd.C Kd.string w B1 d.f2.length d.f2) (h3 : Kd.C k63 w A2 e.f1.length e.f1) (h4 : Kd.C Kd.string w B2 e.f2.length e.f2) (h5 : Kd.C k63 w A3 f.f1.length f.f1) (h6 : Kd.C Kd.string w B3 f.f2.length f.f2)
    (l1 : d.f1.length ≤ c1) (l2 : d.f2.length ≤ k1) (l3 : e.f1.length ≤ c2) (l4 : e.f2.length ≤ k2) (l5 : f.f1.length ≤ c3) (l6 : f.f2.length ≤ k3) :
    Calls Try.prog 9 #[.agg #[.int .i64 d.f0, .slice A1 d.f1.length c1, .slice B1 d.f2.length k1], .agg #[.int .i64 e.f0, .slice A2 e.f1.length c2, .slice B2 e.f2.length k2], .agg #[.int .i64 f.f0, .slice A3 f.f1.length c3, .slice B3 f.f2.length k3]] w fun e' w' => Law w e' w' := by
  have H0 : Hid ((((w.alloc (.cells #[.int .i64 d.f0, .slice A1 d.f1.length c1, .slice B1 d.f2.length k1] 27)).alloc (.cells #[.int .i64 e.f0, .slice A2 e.f1.length c2, .slice B2 e.f2.length k2] 27)).alloc (.cells #[.int .i64 f.f0, .slice A3 f.f1.length c3, .slice B3 f.f2.length k3] 27)).heap[w.heap.size]? = some (.cells #[.int .i64 d.f0, .slice A1 d.f1.length c1, .slice B1 d.f2.length k1] 27 (0, 0))) := Lib.hid (blk_alloc (blk_alloc (blk_new w _) _) _)
  have H1 : Hid ((((w.alloc (.cells #[.int .i64 d.f0, .slice A1 d.f1.length c1, .slice B1 d.f2.length k1] 27)).alloc (.cells #[.int .i64 e.f0, .slice A2 e.f1.length c2, .slice B2 e.f2.length k2] 27)).alloc (.cells #[.int .i64 f.f0, .slice A3 f.f1.length c3, .slice B3 f.f2.length k3] 27)).heap[w.heap.size + 1]? = some (.cells #[.int .i64 e.f0, .slice A2 e.f1.length c2, .slice B2 e.f2.length k2] 27 (0, 0))) := Lib.hid (by
    have := blk_new (w.alloc (.cells #[.int .i64 d.f0, .slice A1 d.f1.length c1, .slice B1 d.f2.length k1] 27)) (.cells #[.int .i64 e.f0, .slice A2 e.f1.length c2, .slice B2 e.f2.length k2] 27)
    rw [World.size_alloc] at this
    exact blk_alloc this _)
  have H2 : Hid ((((w.alloc (.cells #[.int .i64 d.f0, .slice A1 d.f1.length c1, .slice B1 d.f2.length k1] 27)).alloc (.cells #[.int .i64 e.f0, .slice A2 e.f1.length c2, .slice B2 e.f2.length k2] 27)).alloc (.cells #[.int .i64 f.f0, .slice A3 f.f1.length c3, .slice B3 f.f2.length k3] 27)).heap[w.heap.size + 1 + 1]? = some (.cells #[.int .i64 f.f0, .slice A3 f.f1.length c3, .slice B3 f.f2.length k3] 27 (0, 0))) := Lib.hid (by
    have := blk_new ((w.alloc (.cells #[.int .i64 d.f0, .slice A1 d.f1.length c1, .slice B1 d.f2.length k1] 27)).alloc (.cells #[.int .i64 e.f0, .slice A2 e.f1.length c2, .slice B2 e.f2.length k2] 27)) (.cells #[.int .i64 f.f0, .slice A3 f.f1.length c3, .slice B3 f.f2.length k3] 27)
    rw [World.size_alloc, World.size_alloc] at this
    exact this)
  have HB : Hid (Below w.heap.size w (((w.alloc (.cells #[.int .i64 d.f0, .slice A1 d.f1.length c1, .slice B1 d.f2.length k1] 27)).alloc (.cells #[.int .i64 e.f0, .slice A2 e.f1.length c2, .slice B2 e.f2.length k2] 27)).alloc (.cells #[.int .i64 f.f0, .slice A3 f.f1.length c3, .slice B3 f.f2.length k3] 27))) := Lib.hid ((((Below.refl _ w).alloc (Nat.le_refl _) _).alloc (by simp) _).alloc (by simp; omega) _)
  have HQ : Hid (∀ W, Below w.heap.size w W → Calls Try.prog 28 #[.agg #[.int .i64 d.f0, .slice A1 d.f1.length c1, .slice B1 d.f2.length k1], .agg #[.int .i64 e.f0, .slice A2 e.f1.length c2, .slice B2 e.f2.length k2], .agg #[.int .i64 f.f0, .slice A3 f.f1.length c3, .slice B3 f.f2.length k3]] W fun e' w' => SaysB true W e' w') := Lib.hid (fun W h => by
    have := assoc28 d e f A1 B1 A2 B2 A3 B3 c1 k1 c2 k2 c3 k3 W (Kd.C_below h1 h) (Kd.C_below h2 h) (Kd.C_below h3 h) (Kd.C_below h4 h) (Kd.C_below h5 h) (Kd.C_below h6 h)
    rw [assocP_true] at this
    exact this)
  have HF : Hid (∀ W, Below w.heap.size w W → Calls Try.prog 11 #[.slice (some ⟨W.heap.size, 0, none⟩) 3 3] (W.alloc (.cells #[.int .i64 d.f0, .slice A1 d.f1.length c1, .slice B1 d.f2.length k1, .int .i64 e.f0, .slice A2 e.f1.length c2, .slice B2 e.f2.length k2, .int .i64 f.f0, .slice A3 f.f1.length c3, .slice B3 f.f2.length k3] 27)) fun e' w' => ∃ b, e' = .returned (.bool b) ∧ Hid (Below (W.alloc (.cells #[.int .i64 d.f0, .slice A1 d.f1.length c1, .slice B1 d.f2.length k1, .int .i64 e.f0, .slice A2 e.f1.length c2, .slice B2 e.f2.length k2, .int .i64 f.f0, .slice A3 f.f1.length c3, .slice B3 f.f2.length k3] 27)).heap.size (W.alloc (.cells #[.int .i64 d.f0, .slice A1 d.f1.length c1, .slice B1 d.f2.length k1, .int .i64 e.f0, .slice A2 e.f1.length c2, .slice B2 e.f2.length k2, .int .i64 f.f0, .slice A3 f.f1.length c3, .slice B3 f.f2.length k3] 27)) w')) := Lib.hid (fun W h => by
    have hb : Below w.heap.size w (W.alloc (.cells #[.int .i64 d.f0, .slice A1 d.f1.length c1, .slice B1 d.f2.length k1, .int .i64 e.f0, .slice A2 e.f1.length c2, .slice B2 e.f2.length k2, .int .i64 f.f0, .slice A3 f.f1.length c3, .slice B3 f.f2.length k3] 27)) := h.alloc h.size _
    have := deltas11 [d, e, f] (some ⟨W.heap.size, 0, none⟩) 3 (W.alloc (.cells #[.int .i64 d.f0, .slice A1 d.f1.length c1, .slice B1 d.f2.length k1, .int .i64 e.f0, .slice A2 e.f1.length c2, .slice B2 e.f2.length k2, .int .i64 f.f0, .slice A3 f.f1.length c3, .slice B3 f.f2.length k3] 27)) (lit3 d e f A1 B1 A2 B2 A3 B3 c1 k1 c2 k2 c3 k3 _ _ (Kd.C_below h1 hb) (Kd.C_below h2 hb) (Kd.C_below h3 hb) (Kd.C_below h4 hb) (Kd.C_below h5 hb) (Kd.C_below h6 hb) l1 l2 l3 l4 l5 l6 (blk_new W _))
    refine this.mono ?_
    rintro e' w' ⟨b, he, _, h⟩
    exact ⟨b, he, h⟩)
  clear h1 h2 h3 h4 h5 h6 l1 l2 l3 l4 l5 l6
  go_enter Try.func9, Try.ntmps9
  go_upto_region 1 with (fail)
  generalize (((w.alloc (.cells #[.int .i64 d.f0, .slice A1 d.f1.length c1, .slice B1 d.f2.length k1] 27)).alloc (.cells #[.int .i64 e.f0, .slice A2 e.f1.length c2, .slice B2 e.f2.length k2] 27)).alloc (.cells #[.int .i64 f.f0, .slice A3 f.f1.length c3, .slice B3 f.f2.length k3] 27)) = wa at *
  obtain ⟨g, hg⟩ : ∃ g, g = w.heap.size := ⟨_, rfl⟩
  rw [← hg] at H0 H1 H2 ⊢
  clear hg
  have a0 : wa.cell? ⟨g, 0, none⟩ = some (.int .i64 d.f0) := blk_at H0.out 0 rfl
  have a1 : wa.cell? ⟨g, 1, none⟩ = some (.slice A1 d.f1.length c1) := blk_at H0.out 1 rfl
  have a2 : wa.cell? ⟨g, 2, none⟩ = some (.slice B1 d.f2.length k1) := blk_at H0.out 2 rfl
  have b0 : wa.cell? ⟨(g + 1), 0, none⟩ = some (.int .i64 e.f0) := blk_at H1.out 0 rfl
  have b1 : wa.cell? ⟨(g + 1), 1, none⟩ = some (.slice A2 e.f1.length c2) := blk_at H1.out 1 rfl
  have b2 : wa.cell? ⟨(g + 1), 2, none⟩ = some (.slice B2 e.f2.length k2) := blk_at H1.out 2 rfl
  have q0 : wa.cell? ⟨(g + 1 + 1), 0, none⟩ = some (.int .i64 f.f0) := blk_at H2.out 0 rfl
  have q1 : wa.cell? ⟨(g + 1 + 1), 1, none⟩ = some (.slice A3 f.f1.length c3) := blk_at H2.out 1 rfl
  have q2 : wa.cell? ⟨(g + 1 + 1), 2, none⟩ = some (.slice B3 f.f2.length k3) := blk_at H2.out 2 rfl
  have HBL : Hid (Below wa.heap.size wa (wa.alloc (.cells #[.int .i64 d.f0, .slice A1 d.f1.length c1, .slice B1 d.f2.length k1, .int .i64 e.f0, .slice A2 e.f1.length c2, .slice B2 e.f2.length k2, .int .i64 f.f0, .slice A3 f.f1.length c3, .slice B3 f.f2.length k3] 27))) := Lib.hid ((Below.refl _ wa).alloc (Nat.le_refl _) _)
  have HC := Lib.hid (HF.out wa HB.out)
  go_wp2_with (first
    | (go_at_call 11; refine HC.out.mono ?_; rintro e' w1 ⟨bl, rfl, hb1⟩
       have HW1 : Hid (Below wa.heap.size wa w1) := HBL.out.trans (hb1.out.mono HBL.out.size)
       clear hb1 a0 a1 a2 b0 b1 b2 q0 q1 q2)
    | (go_at_call 24; refine (plain24 w1).mono ?_; rintro e' w2 ⟨rfl, hb2⟩
       have HW2 : Hid (Below wa.heap.size wa w2) := HW1.out.trans (hb2.out.mono HW1.out.size)
       have M0 := Lib.hid (blk_below H0.out HW2.out)
       have M1 := Lib.hid (blk_below H1.out HW2.out)
       have M2 := Lib.hid (blk_below H2.out HW2.out)
       have HB2 : Hid (Below w.heap.size w w2) := HB.out.trans (HW2.out.mono HB.out.size)
       have a0 : w2.cell? ⟨g, 0, none⟩ = some (.int .i64 d.f0) := blk_at M0.out 0 rfl
       have a1 : w2.cell? ⟨g, 1, none⟩ = some (.slice A1 d.f1.length c1) := blk_at M0.out 1 rfl
       have a2 : w2.cell? ⟨g, 2, none⟩ = some (.slice B1 d.f2.length k1) := blk_at M0.out 2 rfl
       have b0 : w2.cell? ⟨(g + 1), 0, none⟩ = some (.int .i64 e.f0) := blk_at M1.out 0 rfl
       have b1 : w2.cell? ⟨(g + 1), 1, none⟩ = some (.slice A2 e.f1.length c2) := blk_at M1.out 1 rfl
       have b2 : w2.cell? ⟨(g + 1), 2, none⟩ = some (.slice B2 e.f2.length k2) := blk_at M1.out 2 rfl
       have q0 : w2.cell? ⟨(g + 1 + 1), 0, none⟩ = some (.int .i64 f.f0) := blk_at M2.out 0 rfl
       have q1 : w2.cell? ⟨(g + 1 + 1), 1, none⟩ = some (.slice A3 f.f1.length c3) := blk_at M2.out 1 rfl
       have q2 : w2.cell? ⟨(g + 1 + 1), 2, none⟩ = some (.slice B3 f.f2.length k3) := blk_at M2.out 2 rfl
       clear hb2)
    | (go_at_call 28; refine (HQ.out w2 HB2.out).mono ?_; rintro e' w3 ⟨rfl, hb3⟩
       have HB3 : Hid (Below w.heap.size w w3) := HB2.out.trans (hb3.out.mono HB2.out.size)
       clear hb3))
  all_goals
    go_ret
    first
    | exact ⟨rfl, HB3.out⟩
    | exact ⟨rfl, HB.out.trans (HW1.out.mono HB.out.size)⟩
end Go.Proofs.Ytpplnhefpcofoaa.PDeltaJoin
