/- DeltaJoin, walked. -/
import Derived.Test.YtpplnhefpcofoaaWC
import Derived.Test.YtpplnhefpcofoaaWM
import Derived.Test.YtpplnhefpcofoaaPG
namespace Go.Proofs.Ytpplnhefpcofoaa.PDeltaJoin
open Go.RowKit Go.Proofs.YtpplnhefpcofoaaW.PrintWords Go.Proofs.YtpplnhefpcofoaaW.PrintLast
set_option linter.unusedVariables false
set_option linter.unusedSimpArgs false

theorem applyS15 (s : S24) (d : S27) (A B G : Option Addr) (ca cb cg : Nat) (w : World) (hA : Kd.C k63 w A s.f1.length s.f1) (hB : Kd.C k63 w B d.f1.length d.f1) (hG : Kd.C Kd.string w G d.f2.length d.f2) (hca : s.f1.length ≤ ca) (hcb : d.f1.length ≤ cb) :
    Calls Try.prog 15 #[.agg #[.int .i64 s.f0, .slice A s.f1.length ca], .agg #[.int .i64 d.f0, .slice B d.f1.length cb, .slice G d.f2.length cg]] w fun e w' => SA (applyS s d) (applyE s d) w e w' :=
  (apply15 s.f0 s.f1 d.f0 d.f1 d.f2 A B G ca cb cg w hA hB hG hca hcb).mono (fun _ _ h => h.sa)
theorem litD2 (d e : S27) (A1 B1 A2 B2 : Option Addr) (c1 k1 c2 k2 : Nat) (w : World) (b : Nat) (h1 : Kd.C k63 w A1 d.f1.length d.f1) (h2 : Kd.C Kd.string w B1 d.f2.length d.f2) (h3 : Kd.C k63 w A2 e.f1.length e.f1) (h4 : Kd.C Kd.string w B2 e.f2.length e.f2)
    (l1 : d.f1.length ≤ c1) (l2 : d.f2.length ≤ k1) (l3 : e.f1.length ≤ c2) (l4 : e.f2.length ≤ k2)
    (hb : w.heap[b]? = some (.cells #[.int .i64 d.f0, .slice A1 d.f1.length c1, .slice B1 d.f2.length k1, .int .i64 e.f0, .slice A2 e.f1.length c2, .slice B2 e.f2.length k2] 27 (0, 0))) : Kd.C k27 w (some ⟨b, 0, none⟩) [d, e].length [d, e] := by
  refine lit_C k27 (inner := [.int .i64 d.f0, .slice A1 d.f1.length c1, .slice B1 d.f2.length k1, .int .i64 e.f0, .slice A2 e.f1.length c2, .slice B2 e.f2.length k2]) ?_ hb (by simp)
  have r1 := Reps.snoc (Reps.none _ k27.sz) (k27_mk w d l1 h1 l2 h2) rfl
  exact Reps.snoc r1 (k27_mk w e l3 h3 l4 h4) rfl
theorem litT1 (s : S24) (A0 : Option Addr) (c0 : Nat) (w : World) (b : Nat) (h1 : Kd.C k63 w A0 s.f1.length s.f1) (l1 : s.f1.length ≤ c0) (hb : w.heap[b]? = some (.cells #[.int .i64 s.f0, .slice A0 s.f1.length c0] 24 (0, 0))) : Kd.C k24 w (some ⟨b, 0, none⟩) [s].length [s] := by
  refine lit_C k24 (inner := [.int .i64 s.f0, .slice A0 s.f1.length c0]) ?_ hb (by simp)
  exact Reps.snoc (Reps.none _ k24.sz) (k24_mk w s l1 h1) rfl
noncomputable def missB (d : S27) (s : S24) (l : List ByteArray) : Bool := l.any fun k => eqB (inC d.f1 k) && !eqB (inC s.f1 k)
theorem missB_true {d : S27} {s : S24} {l : List ByteArray} (h : ∃ k, k ∈ l ∧ inC d.f1 k ∧ ¬ inC s.f1 k) : missB d s l = true := by
  obtain ⟨k, hk, h1, h2⟩ := h
  exact List.any_eq_true.2 ⟨k, hk, by rw [eqB_true h1, eqB_false h2]; rfl⟩
theorem missB_take (d : S27) (s : S24) (l : List ByteArray) (k : Nat) (h : k < l.length) : missB d s (l.take (k + 1)) = (missB d s (l.take k) || (eqB (inC d.f1 (l.getD k ⟨#[]⟩)) && !eqB (inC s.f1 (l.getD k ⟨#[]⟩)))) := by
  unfold missB
  have e : l.getD k ⟨#[]⟩ = l[k] := by simp [List.getD_eq_getElem?_getD, List.getElem?_eq_getElem h]
  rw [e, ← List.take_append_getElem h, List.any_append]
  simp
set_option maxRecDepth 100000 in
set_option maxHeartbeats 16000000 in
theorem deltaJoin_walk (s : S24) (d e : S27) (A0 A1 B1 A2 B2 : Option Addr) (c0 c1 k1 c2 k2 : Nat) (w : World) (h0 : Kd.C k63 w A0 s.f1.length s.f1) (h1 : Kd.C k63 w A1 d.f1.length d.f1) (h2 : Kd.C Kd.string w B1 d.f2.length d.f2) (h3 : Kd.C k63 w A2 e.f1.length e.f1) (h4 : Kd.C Kd.string w B2 e.f2.length e.f2) (l0 : s.f1.length ≤ c0) (l1 : d.f1.length ≤ c1) (l2 : d.f2.length ≤ k1) (l3 : e.f1.length ≤ c2) (l4 : e.f2.length ≤ k2) :
    Calls Try.prog 7 #[.agg #[.int .i64 s.f0, .slice A0 s.f1.length c0], .agg #[.int .i64 d.f0, .slice A1 d.f1.length c1, .slice B1 d.f2.length k1], .agg #[.int .i64 e.f0, .slice A2 e.f1.length c2, .slice B2 e.f2.length k2]] w fun e' w' => Law w e' w' := by
  have H0 : Hid ((((w.alloc (.cells #[.int .i64 s.f0, .slice A0 s.f1.length c0] 24)).alloc (.cells #[.int .i64 d.f0, .slice A1 d.f1.length c1, .slice B1 d.f2.length k1] 27)).alloc (.cells #[.int .i64 e.f0, .slice A2 e.f1.length c2, .slice B2 e.f2.length k2] 27)).heap[w.heap.size]? = some (.cells #[.int .i64 s.f0, .slice A0 s.f1.length c0] 24 (0, 0))) := Lib.hid (blk_alloc (blk_alloc (blk_new w _) _) _)
  have H1 : Hid ((((w.alloc (.cells #[.int .i64 s.f0, .slice A0 s.f1.length c0] 24)).alloc (.cells #[.int .i64 d.f0, .slice A1 d.f1.length c1, .slice B1 d.f2.length k1] 27)).alloc (.cells #[.int .i64 e.f0, .slice A2 e.f1.length c2, .slice B2 e.f2.length k2] 27)).heap[w.heap.size + 1]? = some (.cells #[.int .i64 d.f0, .slice A1 d.f1.length c1, .slice B1 d.f2.length k1] 27 (0, 0))) := Lib.hid (by
    have := blk_new (w.alloc (.cells #[.int .i64 s.f0, .slice A0 s.f1.length c0] 24)) (.cells #[.int .i64 d.f0, .slice A1 d.f1.length c1, .slice B1 d.f2.length k1] 27)
    rw [World.size_alloc] at this
    exact blk_alloc this _)
  have H2 : Hid ((((w.alloc (.cells #[.int .i64 s.f0, .slice A0 s.f1.length c0] 24)).alloc (.cells #[.int .i64 d.f0, .slice A1 d.f1.length c1, .slice B1 d.f2.length k1] 27)).alloc (.cells #[.int .i64 e.f0, .slice A2 e.f1.length c2, .slice B2 e.f2.length k2] 27)).heap[w.heap.size + 1 + 1]? = some (.cells #[.int .i64 e.f0, .slice A2 e.f1.length c2, .slice B2 e.f2.length k2] 27 (0, 0))) := Lib.hid (by
    have := blk_new ((w.alloc (.cells #[.int .i64 s.f0, .slice A0 s.f1.length c0] 24)).alloc (.cells #[.int .i64 d.f0, .slice A1 d.f1.length c1, .slice B1 d.f2.length k1] 27)) (.cells #[.int .i64 e.f0, .slice A2 e.f1.length c2, .slice B2 e.f2.length k2] 27)
    rw [World.size_alloc, World.size_alloc] at this
    exact this)
  have HB : Hid (Below w.heap.size w (((w.alloc (.cells #[.int .i64 s.f0, .slice A0 s.f1.length c0] 24)).alloc (.cells #[.int .i64 d.f0, .slice A1 d.f1.length c1, .slice B1 d.f2.length k1] 27)).alloc (.cells #[.int .i64 e.f0, .slice A2 e.f1.length c2, .slice B2 e.f2.length k2] 27))) := Lib.hid ((((Below.refl _ w).alloc (Nat.le_refl _) _).alloc (by simp) _).alloc (by simp; omega) _)
  have HF : Hid (∀ W, Below w.heap.size w W → Calls Try.prog 11 #[.slice (some ⟨W.heap.size, 0, none⟩) 2 2] (W.alloc (.cells #[.int .i64 d.f0, .slice A1 d.f1.length c1, .slice B1 d.f2.length k1, .int .i64 e.f0, .slice A2 e.f1.length c2, .slice B2 e.f2.length k2] 27)) fun e' w' => ∃ b, e' = .returned (.bool b) ∧ Hid (Below (W.alloc (.cells #[.int .i64 d.f0, .slice A1 d.f1.length c1, .slice B1 d.f2.length k1, .int .i64 e.f0, .slice A2 e.f1.length c2, .slice B2 e.f2.length k2] 27)).heap.size (W.alloc (.cells #[.int .i64 d.f0, .slice A1 d.f1.length c1, .slice B1 d.f2.length k1, .int .i64 e.f0, .slice A2 e.f1.length c2, .slice B2 e.f2.length k2] 27)) w')) := Lib.hid (fun W h => by
    have hb : Below w.heap.size w (W.alloc (.cells #[.int .i64 d.f0, .slice A1 d.f1.length c1, .slice B1 d.f2.length k1, .int .i64 e.f0, .slice A2 e.f1.length c2, .slice B2 e.f2.length k2] 27)) := h.alloc h.size _
    have := deltas11 [d, e] (some ⟨W.heap.size, 0, none⟩) 2 (W.alloc (.cells #[.int .i64 d.f0, .slice A1 d.f1.length c1, .slice B1 d.f2.length k1, .int .i64 e.f0, .slice A2 e.f1.length c2, .slice B2 e.f2.length k2] 27)) (litD2 d e A1 B1 A2 B2 c1 k1 c2 k2 _ _ (Kd.C_below h1 hb) (Kd.C_below h2 hb) (Kd.C_below h3 hb) (Kd.C_below h4 hb) l1 l2 l3 l4 (blk_new W _))
    refine this.mono ?_
    rintro e' w' ⟨b, he, _, h⟩
    exact ⟨b, he, h⟩)
  have HT : Hid (∀ W, Below w.heap.size w W → Calls Try.prog 10 #[.slice (some ⟨W.heap.size, 0, none⟩) 1 1] (W.alloc (.cells #[.int .i64 s.f0, .slice A0 s.f1.length c0] 24)) fun e' w' => ∃ b, e' = .returned (.bool b) ∧ Hid (Below (W.alloc (.cells #[.int .i64 s.f0, .slice A0 s.f1.length c0] 24)).heap.size (W.alloc (.cells #[.int .i64 s.f0, .slice A0 s.f1.length c0] 24)) w')) := Lib.hid (fun W h => by
    have hb : Below w.heap.size w (W.alloc (.cells #[.int .i64 s.f0, .slice A0 s.f1.length c0] 24)) := h.alloc h.size _
    have := states10 [s] (some ⟨W.heap.size, 0, none⟩) 1 (W.alloc (.cells #[.int .i64 s.f0, .slice A0 s.f1.length c0] 24)) (litT1 s A0 c0 _ _ (Kd.C_below h0 hb) l0 (blk_new W _))
    refine this.mono ?_
    rintro e' w' ⟨b, he, _, h⟩
    exact ⟨b, he, h⟩)
  have Q0 := Lib.hid h0
  have Q1 := Lib.hid h1
  have Q2 := Lib.hid h2
  have Q3 := Lib.hid h3
  have Q4 := Lib.hid h4
  have HLL := Lib.hid (And.intro l0 (And.intro l1 (And.intro l2 (And.intro l3 l4))))
  clear h0 h1 h2 h3 h4 l0 l1 l2 l3 l4
  go_enter Try.func7, Try.ntmps7
  go_upto_region 1 with (fail)
  generalize (((w.alloc (.cells #[.int .i64 s.f0, .slice A0 s.f1.length c0] 24)).alloc (.cells #[.int .i64 d.f0, .slice A1 d.f1.length c1, .slice B1 d.f2.length k1] 27)).alloc (.cells #[.int .i64 e.f0, .slice A2 e.f1.length c2, .slice B2 e.f2.length k2] 27)) = wa at *
  obtain ⟨g, hg⟩ : ∃ g, g = w.heap.size := ⟨_, rfl⟩
  rw [← hg] at H0 H1 H2 ⊢
  clear hg
  have a0 : wa.cell? ⟨g, 0, none⟩ = some (.int .i64 s.f0) := blk_at H0.out 0 rfl
  have a1 : wa.cell? ⟨g, 1, none⟩ = some (.slice A0 s.f1.length c0) := blk_at H0.out 1 rfl
  have HBL : Hid (Below wa.heap.size wa (wa.alloc (.cells #[.int .i64 s.f0, .slice A0 s.f1.length c0] 24))) := Lib.hid ((Below.refl _ wa).alloc (Nat.le_refl _) _)
  have HC := Lib.hid (HT.out wa HB.out)
  go_upto_region 5 with (first
    | (go_at_call 10; refine HC.out.mono ?_; rintro e' w1 ⟨bl, rfl, hb1⟩
       have HW1 : Hid (Below wa.heap.size wa w1) := HBL.out.trans (hb1.out.mono HBL.out.size)
       have HB1 : Hid (Below w.heap.size w w1) := HB.out.trans (HW1.out.mono HB.out.size)
       have N1 := Lib.hid (blk_below H1.out HW1.out)
       have N2 := Lib.hid (blk_below H2.out HW1.out)
       have b0 : w1.cell? ⟨(g + 1), 0, none⟩ = some (.int .i64 d.f0) := blk_at N1.out 0 rfl
       have b1 : w1.cell? ⟨(g + 1), 1, none⟩ = some (.slice A1 d.f1.length c1) := blk_at N1.out 1 rfl
       have b2 : w1.cell? ⟨(g + 1), 2, none⟩ = some (.slice B1 d.f2.length k1) := blk_at N1.out 2 rfl
       have q0 : w1.cell? ⟨(g + 1 + 1), 0, none⟩ = some (.int .i64 e.f0) := blk_at N2.out 0 rfl
       have q1 : w1.cell? ⟨(g + 1 + 1), 1, none⟩ = some (.slice A2 e.f1.length c2) := blk_at N2.out 1 rfl
       have q2 : w1.cell? ⟨(g + 1 + 1), 2, none⟩ = some (.slice B2 e.f2.length k2) := blk_at N2.out 2 rfl
       have HCD := Lib.hid (HF.out w1 HB1.out)
       have HBD : Hid (Below w1.heap.size w1 (w1.alloc (.cells #[.int .i64 d.f0, .slice A1 d.f1.length c1, .slice B1 d.f2.length k1, .int .i64 e.f0, .slice A2 e.f1.length c2, .slice B2 e.f2.length k2] 27))) := Lib.hid ((Below.refl _ w1).alloc (Nat.le_refl _) _)
       clear hb1 a0 a1)
    | (go_at_call 11; refine HCD.out.mono ?_; rintro e' w2 ⟨bd, rfl, hb1⟩
       have HW2 : Hid (Below w1.heap.size w1 w2) := HBD.out.trans (hb1.out.mono HBD.out.size)
       clear hb1 b0 b1 b2 q0 q1 q2)
    | (go_at_call 24; refine (plain24 w2).mono ?_; rintro e' w3 ⟨rfl, hb2⟩
       have HW3 : Hid (Below wa.heap.size wa w3) := HW1.out.trans ((HW2.out.trans (hb2.out.mono HW2.out.size)).mono HW1.out.size)
       clear hb2))
  · go_ret
    exact ⟨rfl, HB1.out.trans (HW2.out.mono HB1.out.size)⟩
  rotate_left
  · go_ret
    exact ⟨rfl, HB1.out⟩
  have HB3 : Hid (Below w.heap.size w w3) := HB.out.trans (HW3.out.mono HB.out.size)
  replace H0 := Lib.hid (blk_below H0.out HW3.out)
  replace H1 := Lib.hid (blk_below H1.out HW3.out)
  replace H2 := Lib.hid (blk_below H2.out HW3.out)
  clear HC HBL HB1 N1 N2 HCD HBD HW1 HW2 HW3 HB HF HT
  obtain ⟨v0, hv0⟩ : ∃ v, v = w3 := ⟨_, rfl⟩
  rw [← hv0] at H0 H1 H2 HB3 ⊢
  have HB0 := HB3
  clear hv0 HB3
  have HP1 : Hid (∀ W, Below w.heap.size w W → Calls Try.prog 15 #[.agg #[.int .i64 s.f0, .slice A0 s.f1.length c0], .agg #[.int .i64 d.f0, .slice A1 d.f1.length c1, .slice B1 d.f2.length k1]] W fun e' w' => SA (applyS s d) (applyE s d) W e' w') := Lib.hid (fun W h => applyS15 s d A0 A1 B1 c0 c1 k1 W (Kd.C_below Q0.out h) (Kd.C_below Q1.out h) (Kd.C_below Q2.out h) HLL.out.1 HLL.out.2.1)
  have HP2 : Hid (∀ W, Below w.heap.size w W → Calls Try.prog 20 #[.agg #[.int .i64 d.f0, .slice A1 d.f1.length c1, .slice B1 d.f2.length k1], .agg #[.int .i64 e.f0, .slice A2 e.f1.length c2, .slice B2 e.f2.length k2]] W fun e' w' => DD (joinD d e) (joinE d e) W e' w') := Lib.hid (fun W h => joinD20 d e A1 B1 A2 B2 c1 k1 c2 k2 W (Kd.C_below Q1.out h) (Kd.C_below Q2.out h) (Kd.C_below Q3.out h) (Kd.C_below Q4.out h))
  have a0 : v0.cell? ⟨g, 0, none⟩ = some (.int .i64 s.f0) := blk_at H0.out 0 rfl
  have a1 : v0.cell? ⟨g, 1, none⟩ = some (.slice A0 s.f1.length c0) := blk_at H0.out 1 rfl
  have b0 : v0.cell? ⟨(g + 1), 0, none⟩ = some (.int .i64 d.f0) := blk_at H1.out 0 rfl
  have b1 : v0.cell? ⟨(g + 1), 1, none⟩ = some (.slice A1 d.f1.length c1) := blk_at H1.out 1 rfl
  have b2 : v0.cell? ⟨(g + 1), 2, none⟩ = some (.slice B1 d.f2.length k1) := blk_at H1.out 2 rfl
  generalize hz : applyS s d = t at HP1
  have X1 := Lib.hid hz
  clear hz
  generalize hz : applyE s d = m1 at HP1
  have M1 := Lib.hid hz
  clear hz
  go_upto_region 6 with (go_at_call 15; refine (HP1.out _ HB0.out).mono ?_; rintro e' u1 ⟨A3, c3, rfl, C1, hb1, L1⟩
                         clear a0 a1 b0 b1 b2)
  have HBu : Hid (Below v0.heap.size v0 (u1.alloc (.cells #[.int .i64 t.f0, .slice A3 t.f1.length c3] 24))) := Lib.hid (hb1.out.alloc hb1.out.size _)
  replace C1 := Lib.hid (Kd.C_alloc C1.out (.cells #[.int .i64 t.f0, .slice A3 t.f1.length c3] 24))
  have K1 := Lib.hid (blk_new u1 (.cells #[.int .i64 t.f0, .slice A3 t.f1.length c3] 24))
  replace H0 := Lib.hid (blk_below H0.out HBu.out)
  replace H1 := Lib.hid (blk_below H1.out HBu.out)
  replace H2 := Lib.hid (blk_below H2.out HBu.out)
  obtain ⟨b1, hbb⟩ : ∃ b, b = u1.heap.size := ⟨_, rfl⟩
  rw [← hbb] at K1 ⊢
  generalize u1.alloc (.cells #[.int .i64 t.f0, .slice A3 t.f1.length c3] 24) = v1 at *
  have HB1 : Hid (Below w.heap.size w v1) := HB0.out.trans (HBu.out.mono HB0.out.size)
  have HS1 := HBu
  clear hbb hb1 HBu
  by_cases q1 : m1 = 0
  rotate_left
  · have n1 : (m1 == 0) = false := beq_false_of_ne q1
    have n2 : (m1 != 0) = true := by simp [q1]
    clear q1
    go_wp2_with (fail)
    go_ret
    exact ⟨rfl, HB1.out⟩
  subst q1
  have a0 : v1.cell? ⟨(g + 1), 0, none⟩ = some (.int .i64 d.f0) := blk_at H1.out 0 rfl
  have a1 : v1.cell? ⟨(g + 1), 1, none⟩ = some (.slice A1 d.f1.length c1) := blk_at H1.out 1 rfl
  have a2 : v1.cell? ⟨(g + 1), 2, none⟩ = some (.slice B1 d.f2.length k1) := blk_at H1.out 2 rfl
  have b0 : v1.cell? ⟨(g + 1 + 1), 0, none⟩ = some (.int .i64 e.f0) := blk_at H2.out 0 rfl
  have b1 : v1.cell? ⟨(g + 1 + 1), 1, none⟩ = some (.slice A2 e.f1.length c2) := blk_at H2.out 1 rfl
  have b2 : v1.cell? ⟨(g + 1 + 1), 2, none⟩ = some (.slice B2 e.f2.length k2) := blk_at H2.out 2 rfl
  generalize hz : joinD d e = j at HP2
  have X2 := Lib.hid hz
  clear hz
  generalize hz : joinE d e = m2 at HP2
  have M2 := Lib.hid hz
  clear hz
  go_upto_region 9 with (go_at_call 20; refine (HP2.out _ HB1.out).mono ?_; rintro e' u2 ⟨A4, c4, B4, k4, rfl, C2, G2, hb2, L2⟩
                         clear a0 a1 a2 b0 b1 b2)
  have HBu : Hid (Below v1.heap.size v1 (u2.alloc (.cells #[.int .i64 j.f0, .slice A4 j.f1.length c4, .slice B4 j.f2.length k4] 27))) := Lib.hid (hb2.out.alloc hb2.out.size _)
  replace C2 := Lib.hid (Kd.C_alloc C2.out (.cells #[.int .i64 j.f0, .slice A4 j.f1.length c4, .slice B4 j.f2.length k4] 27))
  replace G2 := Lib.hid (Kd.C_alloc G2.out (.cells #[.int .i64 j.f0, .slice A4 j.f1.length c4, .slice B4 j.f2.length k4] 27))
  have K2 := Lib.hid (blk_new u2 (.cells #[.int .i64 j.f0, .slice A4 j.f1.length c4, .slice B4 j.f2.length k4] 27))
  replace H0 := Lib.hid (blk_below H0.out HBu.out)
  replace H1 := Lib.hid (blk_below H1.out HBu.out)
  replace H2 := Lib.hid (blk_below H2.out HBu.out)
  replace K1 := Lib.hid (blk_below K1.out HBu.out)
  obtain ⟨b2, hbb⟩ : ∃ b, b = u2.heap.size := ⟨_, rfl⟩
  rw [← hbb] at K2 ⊢
  generalize u2.alloc (.cells #[.int .i64 j.f0, .slice A4 j.f1.length c4, .slice B4 j.f2.length k4] 27) = v2 at *
  have HB2 : Hid (Below w.heap.size w v2) := HB1.out.trans (HBu.out.mono HB1.out.size)
  have HS2 := HBu
  clear hbb hb2 HBu
  have HP3 : Hid (Calls Try.prog 15 #[.agg #[.int .i64 t.f0, .slice A3 t.f1.length c3], .agg #[.int .i64 e.f0, .slice A2 e.f1.length c2, .slice B2 e.f2.length k2]] v2 fun e' w' => SA (applyS t e) (applyE t e) v2 e' w') := Lib.hid (applyS15 t e A3 A2 B2 c3 c2 k2 v2 (Kd.C_below C1.out HS2.out) (Kd.C_below Q3.out HB2.out) (Kd.C_below Q4.out HB2.out) L1.out HLL.out.2.2.2.1)
  have a0 : v2.cell? ⟨b1, 0, none⟩ = some (.int .i64 t.f0) := blk_at K1.out 0 rfl
  have a1 : v2.cell? ⟨b1, 1, none⟩ = some (.slice A3 t.f1.length c3) := blk_at K1.out 1 rfl
  have b0 : v2.cell? ⟨(g + 1 + 1), 0, none⟩ = some (.int .i64 e.f0) := blk_at H2.out 0 rfl
  have b1 : v2.cell? ⟨(g + 1 + 1), 1, none⟩ = some (.slice A2 e.f1.length c2) := blk_at H2.out 1 rfl
  have b2 : v2.cell? ⟨(g + 1 + 1), 2, none⟩ = some (.slice B2 e.f2.length k2) := blk_at H2.out 2 rfl
  generalize hz : applyS t e = u at HP3
  have X3 := Lib.hid hz
  clear hz
  generalize hz : applyE t e = m3 at HP3
  have M3 := Lib.hid hz
  clear hz
  go_upto_region 10 with (go_at_call 15; refine HP3.out.mono ?_; rintro e' u3 ⟨A5, c5, rfl, C3, hb3, L3⟩
                          clear a0 a1 b0 b1 b2)
  have HBu : Hid (Below v2.heap.size v2 (u3.alloc (.cells #[.int .i64 u.f0, .slice A5 u.f1.length c5] 24))) := Lib.hid (hb3.out.alloc hb3.out.size _)
  replace C3 := Lib.hid (Kd.C_alloc C3.out (.cells #[.int .i64 u.f0, .slice A5 u.f1.length c5] 24))
  have K3 := Lib.hid (blk_new u3 (.cells #[.int .i64 u.f0, .slice A5 u.f1.length c5] 24))
  replace H0 := Lib.hid (blk_below H0.out HBu.out)
  replace H1 := Lib.hid (blk_below H1.out HBu.out)
  replace H2 := Lib.hid (blk_below H2.out HBu.out)
  replace K2 := Lib.hid (blk_below K2.out HBu.out)
  obtain ⟨b3, hbb⟩ : ∃ b, b = u3.heap.size := ⟨_, rfl⟩
  rw [← hbb] at K3 ⊢
  generalize u3.alloc (.cells #[.int .i64 u.f0, .slice A5 u.f1.length c5] 24) = v3 at *
  have HB3 : Hid (Below w.heap.size w v3) := HB2.out.trans (HBu.out.mono HB2.out.size)
  have HS3 := HBu
  clear hbb hb3 HBu
  by_cases q2 : m2 = 0
  rotate_left
  · have n1 : (m2 == 0) = false := beq_false_of_ne q2
    have n2 : (m2 != 0) = true := by simp [q2]
    by_cases q3 : m3 = 0
    · have q4 : m2 = 111 := by
        have h1 := M1.out
        have h3 := M3.out
        rw [← X1.out, q3] at h3
        rcases join_after h1 h3 with h | h
        · rw [M2.out] at h; exact absurd h q2
        · rw [M2.out] at h; exact h
      subst q3
      subst q4
      clear n1 n2 q2
      go_wp2_with (fail)
      go_ret
      exact ⟨rfl, HB3.out⟩
    · have n3 : (m3 == 0) = false := beq_false_of_ne q3
      clear q2 q3
      go_wp2_with (fail)
      go_ret
      exact ⟨rfl, HB3.out⟩
  subst q2
  have HP4 : Hid (Calls Try.prog 15 #[.agg #[.int .i64 s.f0, .slice A0 s.f1.length c0], .agg #[.int .i64 j.f0, .slice A4 j.f1.length c4, .slice B4 j.f2.length k4]] v3 fun e' w' => SA (applyS s j) (applyE s j) v3 e' w') := Lib.hid (applyS15 s j A0 A4 B4 c0 c4 k4 v3 (Kd.C_below Q0.out HB3.out) (Kd.C_below C2.out HS3.out) (Kd.C_below G2.out HS3.out) HLL.out.1 L2.out.1)
  by_cases q5 : m3 = 0
  rotate_left
  · have n5 : (m3 == 0) = false := beq_false_of_ne q5
    have n6 : (m3 != 0) = true := by simp [q5]
    have a0 : v3.cell? ⟨g, 0, none⟩ = some (.int .i64 s.f0) := blk_at H0.out 0 rfl
    have a1 : v3.cell? ⟨g, 1, none⟩ = some (.slice A0 s.f1.length c0) := blk_at H0.out 1 rfl
    have b0 : v3.cell? ⟨b2, 0, none⟩ = some (.int .i64 j.f0) := blk_at K2.out 0 rfl
    have b1 : v3.cell? ⟨b2, 1, none⟩ = some (.slice A4 j.f1.length c4) := blk_at K2.out 1 rfl
    have b2 : v3.cell? ⟨b2, 2, none⟩ = some (.slice B4 j.f2.length k4) := blk_at K2.out 2 rfl
    generalize hz : applyS s j = v at HP4
    have X4 := Lib.hid hz
    clear hz
    generalize hz : applyE s j = m4 at HP4
    have M4 := Lib.hid hz
    clear hz
    go_upto_region 15 with (go_at_call 15; refine HP4.out.mono ?_; rintro e' u4 ⟨A6, c6, rfl, C4, hb4, L4⟩
                            clear a0 a1 b0 b1 b2)
    have HBu : Hid (Below v3.heap.size v3 (u4.alloc (.cells #[.int .i64 v.f0, .slice A6 v.f1.length c6] 24))) := Lib.hid (hb4.out.alloc hb4.out.size _)
    replace C4 := Lib.hid (Kd.C_alloc C4.out (.cells #[.int .i64 v.f0, .slice A6 v.f1.length c6] 24))
    have K4 := Lib.hid (blk_new u4 (.cells #[.int .i64 v.f0, .slice A6 v.f1.length c6] 24))
    replace H0 := Lib.hid (blk_below H0.out HBu.out)
    replace H1 := Lib.hid (blk_below H1.out HBu.out)
    replace H2 := Lib.hid (blk_below H2.out HBu.out)
    replace K3 := Lib.hid (blk_below K3.out HBu.out)
    obtain ⟨b4, hbb⟩ : ∃ b, b = u4.heap.size := ⟨_, rfl⟩
    rw [← hbb] at K4 ⊢
    generalize u4.alloc (.cells #[.int .i64 v.f0, .slice A6 v.f1.length c6] 24) = v4 at *
    have HB4 : Hid (Below w.heap.size w v4) := HB3.out.trans (HBu.out.mono HB3.out.size)
    have HS4 := HBu
    clear hbb hb4 HBu
    have q3 : ¬ m4 = 0 := by
      intro q3
      subst q3
      have h := turn_ok (s := s) (d := d) (e := e) M1.out M2.out (by rw [X2.out]; exact M4.out)
      rw [X1.out, M3.out] at h
      exact q5 h
    have n4 : (m4 == 0) = false := beq_false_of_ne q3
    clear q3 q5
    go_wp2_with (fail)
    go_ret
    exact ⟨rfl, HB4.out⟩
  subst q5
  have a0 : v3.cell? ⟨g, 0, none⟩ = some (.int .i64 s.f0) := blk_at H0.out 0 rfl
  have a1 : v3.cell? ⟨g, 1, none⟩ = some (.slice A0 s.f1.length c0) := blk_at H0.out 1 rfl
  have b0 : v3.cell? ⟨b2, 0, none⟩ = some (.int .i64 j.f0) := blk_at K2.out 0 rfl
  have b1 : v3.cell? ⟨b2, 1, none⟩ = some (.slice A4 j.f1.length c4) := blk_at K2.out 1 rfl
  have b2 : v3.cell? ⟨b2, 2, none⟩ = some (.slice B4 j.f2.length k4) := blk_at K2.out 2 rfl
  generalize hz : applyS s j = v at HP4
  have X4 := Lib.hid hz
  clear hz
  generalize hz : applyE s j = m4 at HP4
  have M4 := Lib.hid hz
  clear hz
  go_upto_region 15 with (go_at_call 15; refine HP4.out.mono ?_; rintro e' u4 ⟨A6, c6, rfl, C4, hb4, L4⟩
                          clear a0 a1 b0 b1 b2)
  have HBu : Hid (Below v3.heap.size v3 (u4.alloc (.cells #[.int .i64 v.f0, .slice A6 v.f1.length c6] 24))) := Lib.hid (hb4.out.alloc hb4.out.size _)
  replace C4 := Lib.hid (Kd.C_alloc C4.out (.cells #[.int .i64 v.f0, .slice A6 v.f1.length c6] 24))
  have K4 := Lib.hid (blk_new u4 (.cells #[.int .i64 v.f0, .slice A6 v.f1.length c6] 24))
  replace H0 := Lib.hid (blk_below H0.out HBu.out)
  replace H1 := Lib.hid (blk_below H1.out HBu.out)
  replace H2 := Lib.hid (blk_below H2.out HBu.out)
  replace K3 := Lib.hid (blk_below K3.out HBu.out)
  obtain ⟨b4, hbb⟩ : ∃ b, b = u4.heap.size := ⟨_, rfl⟩
  rw [← hbb] at K4 ⊢
  generalize u4.alloc (.cells #[.int .i64 v.f0, .slice A6 v.f1.length c6] 24) = v4 at *
  have HB4 : Hid (Below w.heap.size w v4) := HB3.out.trans (HBu.out.mono HB3.out.size)
  have HS4 := HBu
  clear hbb hb4 HBu
  by_cases q3 : m4 = 0
  · subst q3
    have HUV : Hid (u = v) := Lib.hid (by
      have a1 := (applied M1.out).2.2
      have a2 := (applied M3.out).2.2
      have j1 := (joined M2.out).2.2
      have a4 := (applied M4.out).2.2
      rw [X1.out] at a1
      rw [X3.out] at a2
      rw [X2.out] at j1
      rw [X4.out] at a4
      exact applied_joined a1 a2 j1 a4)
    have H18 : Hid (Calls Try.prog 18 #[.agg #[.int .i64 u.f0, .slice A5 u.f1.length c5], .agg #[.int .i64 v.f0, .slice A6 v.f1.length c6]] v4 fun e' w' => SaysB true v4 e' w') := Lib.hid (by
      have := sameS18 u v A5 A6 c5 c6 v4 v4 (Kd.C_below C3.out HS4.out) C4.out (Below.refl _ _)
      rw [eqB_true HUV.out] at this
      exact this)
    have a0 : v4.cell? ⟨b3, 0, none⟩ = some (.int .i64 u.f0) := blk_at K3.out 0 rfl
    have a1 : v4.cell? ⟨b3, 1, none⟩ = some (.slice A5 u.f1.length c5) := blk_at K3.out 1 rfl
    have b0 : v4.cell? ⟨b4, 0, none⟩ = some (.int .i64 v.f0) := blk_at K4.out 0 rfl
    have b1 : v4.cell? ⟨b4, 1, none⟩ = some (.slice A6 v.f1.length c6) := blk_at K4.out 1 rfl
    go_wp2_with (go_at_call 18; refine H18.out.mono ?_; rintro e' w5 ⟨rfl, hb5⟩
                 have HB5 : Hid (Below w.heap.size w w5) := HB4.out.trans (hb5.out.mono HB4.out.size)
                 clear hb5)
    go_ret
    exact ⟨rfl, HB5.out⟩
  have n4 : (m4 == 0) = false := beq_false_of_ne q3
  have hmiss : m4 = 110 ∧ ∃ k, k ∈ e.f2 ∧ inC d.f1 k ∧ ¬ inC s.f1 k := by
    have := join_miss (s := s) (d := d) (e := e) M1.out (by rw [X1.out]; exact M3.out) M2.out (by rw [X2.out, M4.out]; exact q3)
    rw [X2.out, M4.out] at this
    exact this
  obtain ⟨q6, hex⟩ := hmiss
  subst q6
  have HEX : Hid (missB d s e.f2 = true) := Lib.hid (missB_true hex)
  clear hex q3 n4
  have HD0 : Hid (∀ W (key : ByteArray), Below w.heap.size w W → Calls Try.prog 27 #[.slice A1 d.f1.length c1, .string key] W fun e' w' => SaysB (eqB (inC d.f1 key)) W e' w') := Lib.hid (fun W key h => made27 d.f1 key A1 c1 w W Q1.out h)
  have HS0 : Hid (∀ W (key : ByteArray), Below w.heap.size w W → Calls Try.prog 27 #[.slice A0 s.f1.length c0, .string key] W fun e' w' => SaysB (eqB (inC s.f1 key)) W e' w') := Lib.hid (fun W key h => made27 s.f1 key A0 c0 w W Q0.out h)
  obtain ⟨n, hn⟩ : ∃ n, n = e.f2.length := ⟨_, rfl⟩
  have hnm : n ≤ 9223372036854775807 := by rw [hn]; exact Kd.C_max Q4.out
  have Hn := Lib.hid hn
  rw [← hn] at H2
  clear hn
  have HV0 : Hid (false = missB d s (e.f2.take 0)) := Lib.hid rfl
  have HBv : Hid (Below v4.heap.size v4 v4) := Lib.hid (Below.refl _ _)
  clear HP1 HP2 HP3 HP4 K1 K2 K3 K4 C1 C2 C3 C4 G2 L1 L2 L3 L4 X1 X2 X3 X4 M1 M2 M3 M4 HS1 HS2 HS3 HS4 HB0 HB1 HB2 HB3 Q1 Q0 Q2 Q3
  go_wp2_with (fail)
  go_loopw [15, 16] (fun v15 v16 wr => ∃ k : Nat, k ≤ n ∧ v16 = .int .i64 k ∧ ∃ b : Bool, v15 = .bool b ∧ Hid (b = missB d s (e.f2.take k)) ∧ Hid (Below v4.heap.size v4 wr)) (fun _ v16 _ => n - (intOf v16).toNat)
  case atStart => exact ⟨0, Nat.zero_le _, rfl, false, rfl, HV0, HBv⟩
  case round =>
    clear HV0 HBv
    obtain ⟨k, hk, rfl, b, rfl, HVk, HBk⟩ := hrel
    have HK2 := Lib.hid (blk_below H2.out HBk.out)
    by_cases hlt : k < n
    rotate_left
    · obtain rfl : n = k := by omega
      have hb : b = true := by rw [HVk.out, List.take_of_length_le (by rw [Hn.out]; exact Nat.le_refl _)]; exact HEX.out
      subst hb
      have b2 : wr.cell? ⟨(g + 1 + 1), 2, none⟩ = some (.slice B2 n k2) := blk_at HK2.out 2 rfl
      have HBe : Hid (Below w.heap.size w wr) := HB4.out.trans (HBk.out.mono HB4.out.size)
      go_wp2_with (fail)
      go_ret
      exact ⟨rfl, HBe.out⟩
    obtain ⟨ad, hA3, e0⟩ := at_str Q4.out k (by rw [← Hn.out]; exact hlt)
    have hst := missB_take d s e.f2 k (by rw [← Hn.out]; exact hlt)
    generalize e.f2.getD k ⟨#[]⟩ = u at *
    have HST := Lib.hid hst
    clear hst
    subst hA3
    have HBw : Hid (Below w.heap.size w wr) := HB4.out.trans (HBk.out.mono HB4.out.size)
    replace e0 := pw_cell_below HBw.out e0
    have HK0 := Lib.hid (blk_below H0.out HBk.out)
    have HK1 := Lib.hid (blk_below H1.out HBk.out)
    have t1 : wr.cell? ⟨(g + 1), 1, none⟩ = some (.slice A1 d.f1.length c1) := blk_at HK1.out 1 rfl
    have t2 : wr.cell? ⟨(g + 1 + 1), 2, none⟩ = some (.slice (some ad) n k2) := blk_at HK2.out 2 rfl
    have t0 : wr.cell? ⟨g, 1, none⟩ = some (.slice A0 s.f1.length c0) := blk_at HK0.out 1 rfl
    have i0 : (0 : Int) ≤ (k : Int) := by omega
    have i1 : (k : Int) < (n : Int) := by omega
    cases b with
    | true =>
      go_upto_region 23 with (fail)
      refine start_ (n := 23) (S := (fun w' => w'.cell? ⟨(g + 1), 1, none⟩ = some (.slice A1 d.f1.length c1) ∧ w'.cell? ⟨(g + 1 + 1), 2, none⟩ = some (.slice (some ad) n k2) ∧ w'.cell? ⟨g, 1, none⟩ = some (.slice A0 s.f1.length c0) ∧ w'.cell? (ad.add k) = some (.string u))) (ds := []) #[false, false, false, false, false, false, false, false, false, false, false, false, false, false, false, false, false, false, false, false, false, false, false] (by kernel_rfl) rfl rfl ⟨t1, t2, t0, e0⟩ (fun hHeld => ?_)
      have HBd : Hid (Below wr.heap.size wr wr.drew) := (Below.refl _ _).drew
      generalize wr.drew = W at hHeld HBd ⊢
      refine pure_ (i := 0) (N := some 84) (v := ?_) (a' := ?_) #[true, false, false, false, false, false, false, false, false, false, false, false, false, false, false, false, false, false, false, false, false, false, false] rfl rfl (by kernel_rfl) (fun _ _ _ h => h) (Or.inl ⟨by rfl, ?_⟩) ?_ ?_
      rotate_left
      · intro w'
        go_simp
        with_reducible rfl
      rotate_left
      · simp only [Act.put, List.setIfInBounds_toArray, List.set_cons_zero, List.set_cons_succ]
        rfl
      refine pure_ (i := 1) (N := some 85) (v := ?_) (a' := ?_) #[true, true, false, false, false, false, false, false, false, false, false, false, false, false, false, false, false, false, false, false, false, false, false] rfl rfl (by kernel_rfl) (fun _ _ _ h => h) (Or.inl ⟨by rfl, ?_⟩) ?_ ?_
      rotate_left
      · intro w'
        go_simp
        with_reducible rfl
      rotate_left
      · simp only [Act.put, List.setIfInBounds_toArray, List.set_cons_zero, List.set_cons_succ]
        rfl
      refine pure_ (i := 2) (N := some 86) (v := undef) (a' := ?_) #[true, true, true, false, false, false, false, false, false, false, false, false, false, false, false, false, false, false, false, false, false, false, false] rfl rfl (by kernel_rfl) (fun _ _ _ h => h) (Or.inr ⟨by rfl, rfl⟩) ?_ ?_
      rotate_left
      · simp only [Act.put, List.setIfInBounds_toArray, List.set_cons_zero, List.set_cons_succ]
        rfl
      refine pure_ (i := 3) (N := some 87) (v := undef) (a' := ?_) #[true, true, true, true, false, false, false, false, false, false, false, false, false, false, false, false, false, false, false, false, false, false, false] rfl rfl (by kernel_rfl) (fun _ _ _ h => h) (Or.inr ⟨by rfl, rfl⟩) ?_ ?_
      rotate_left
      · simp only [Act.put, List.setIfInBounds_toArray, List.set_cons_zero, List.set_cons_succ]
        rfl
      refine pure_ (i := 4) (N := some 88) (v := undef) (a' := ?_) #[true, true, true, true, true, false, false, false, false, false, false, false, false, false, false, false, false, false, false, false, false, false, false] rfl rfl (by kernel_rfl) (fun _ _ _ h => h) (Or.inr ⟨by rfl, rfl⟩) ?_ ?_
      rotate_left
      · simp only [Act.put, List.setIfInBounds_toArray, List.set_cons_zero, List.set_cons_succ]
        rfl
      refine pure_ (i := 5) (N := some 89) (v := undef) (a' := ?_) #[true, true, true, true, true, true, false, false, false, false, false, false, false, false, false, false, false, false, false, false, false, false, false] rfl rfl (by kernel_rfl) (fun _ _ _ h => h) (Or.inr ⟨by rfl, rfl⟩) ?_ ?_
      rotate_left
      · simp only [Act.put, List.setIfInBounds_toArray, List.set_cons_zero, List.set_cons_succ]
        rfl
      refine pure_ (i := 6) (N := some 90) (v := undef) (a' := ?_) #[true, true, true, true, true, true, true, false, false, false, false, false, false, false, false, false, false, false, false, false, false, false, false] rfl rfl (by kernel_rfl) (fun _ _ _ h => h) (Or.inr ⟨by rfl, rfl⟩) ?_ ?_
      rotate_left
      · simp only [Act.put, List.setIfInBounds_toArray, List.set_cons_zero, List.set_cons_succ]
        rfl
      refine pure_ (i := 7) (N := some 91) (v := undef) (a' := ?_) #[true, true, true, true, true, true, true, true, false, false, false, false, false, false, false, false, false, false, false, false, false, false, false] rfl rfl (by kernel_rfl) (fun _ _ _ h => h) (Or.inr ⟨by rfl, rfl⟩) ?_ ?_
      rotate_left
      · simp only [Act.put, List.setIfInBounds_toArray, List.set_cons_zero, List.set_cons_succ]
        rfl
      refine pure_ (i := 8) (N := some 92) (v := undef) (a' := ?_) #[true, true, true, true, true, true, true, true, true, false, false, false, false, false, false, false, false, false, false, false, false, false, false] rfl rfl (by kernel_rfl) (fun _ _ _ h => h) (Or.inr ⟨by rfl, rfl⟩) ?_ ?_
      rotate_left
      · simp only [Act.put, List.setIfInBounds_toArray, List.set_cons_zero, List.set_cons_succ]
        rfl
      refine pure_ (i := 9) (N := some 93) (v := undef) (a' := ?_) #[true, true, true, true, true, true, true, true, true, true, false, false, false, false, false, false, false, false, false, false, false, false, false] rfl rfl (by kernel_rfl) (fun _ _ _ h => h) (Or.inr ⟨by rfl, rfl⟩) ?_ ?_
      rotate_left
      · simp only [Act.put, List.setIfInBounds_toArray, List.set_cons_zero, List.set_cons_succ]
        rfl
      refine pure_ (i := 10) (N := some 94) (v := undef) (a' := ?_) #[true, true, true, true, true, true, true, true, true, true, true, false, false, false, false, false, false, false, false, false, false, false, false] rfl rfl (by kernel_rfl) (fun _ _ _ h => h) (Or.inr ⟨by rfl, rfl⟩) ?_ ?_
      rotate_left
      · simp only [Act.put, List.setIfInBounds_toArray, List.set_cons_zero, List.set_cons_succ]
        rfl
      refine pure_ (i := 11) (N := some 95) (v := undef) (a' := ?_) #[true, true, true, true, true, true, true, true, true, true, true, true, false, false, false, false, false, false, false, false, false, false, false] rfl rfl (by kernel_rfl) (fun _ _ _ h => h) (Or.inr ⟨by rfl, rfl⟩) ?_ ?_
      rotate_left
      · simp only [Act.put, List.setIfInBounds_toArray, List.set_cons_zero, List.set_cons_succ]
        rfl
      refine pure_ (i := 12) (N := some 96) (v := undef) (a' := ?_) #[true, true, true, true, true, true, true, true, true, true, true, true, true, false, false, false, false, false, false, false, false, false, false] rfl rfl (by kernel_rfl) (fun _ _ _ h => h) (Or.inr ⟨by rfl, rfl⟩) ?_ ?_
      rotate_left
      · simp only [Act.put, List.setIfInBounds_toArray, List.set_cons_zero, List.set_cons_succ]
        rfl
      refine pure_ (i := 13) (N := some 97) (v := undef) (a' := ?_) #[true, true, true, true, true, true, true, true, true, true, true, true, true, true, false, false, false, false, false, false, false, false, false] rfl rfl (by kernel_rfl) (fun _ _ _ h => h) (Or.inr ⟨by rfl, rfl⟩) ?_ ?_
      rotate_left
      · simp only [Act.put, List.setIfInBounds_toArray, List.set_cons_zero, List.set_cons_succ]
        rfl
      refine pure_ (i := 14) (N := some 98) (v := undef) (a' := ?_) #[true, true, true, true, true, true, true, true, true, true, true, true, true, true, true, false, false, false, false, false, false, false, false] rfl rfl (by kernel_rfl) (fun _ _ _ h => h) (Or.inr ⟨by rfl, rfl⟩) ?_ ?_
      rotate_left
      · simp only [Act.put, List.setIfInBounds_toArray, List.set_cons_zero, List.set_cons_succ]
        rfl
      refine pure_ (i := 15) (N := some 99) (v := undef) (a' := ?_) #[true, true, true, true, true, true, true, true, true, true, true, true, true, true, true, true, false, false, false, false, false, false, false] rfl rfl (by kernel_rfl) (fun _ _ _ h => h) (Or.inr ⟨by rfl, rfl⟩) ?_ ?_
      rotate_left
      · simp only [Act.put, List.setIfInBounds_toArray, List.set_cons_zero, List.set_cons_succ]
        rfl
      refine pure_ (i := 16) (N := some 100) (v := undef) (a' := ?_) #[true, true, true, true, true, true, true, true, true, true, true, true, true, true, true, true, true, false, false, false, false, false, false] rfl rfl (by kernel_rfl) (fun _ _ _ h => h) (Or.inr ⟨by rfl, rfl⟩) ?_ ?_
      rotate_left
      · simp only [Act.put, List.setIfInBounds_toArray, List.set_cons_zero, List.set_cons_succ]
        rfl
      refine pure_ (i := 17) (N := some 101) (v := undef) (a' := ?_) #[true, true, true, true, true, true, true, true, true, true, true, true, true, true, true, true, true, true, false, false, false, false, false] rfl rfl (by kernel_rfl) (fun _ _ _ h => h) (Or.inr ⟨by rfl, rfl⟩) ?_ ?_
      rotate_left
      · simp only [Act.put, List.setIfInBounds_toArray, List.set_cons_zero, List.set_cons_succ]
        rfl
      refine pure_ (i := 18) (N := some 102) (v := undef) (a' := ?_) #[true, true, true, true, true, true, true, true, true, true, true, true, true, true, true, true, true, true, true, false, false, false, false] rfl rfl (by kernel_rfl) (fun _ _ _ h => h) (Or.inr ⟨by rfl, rfl⟩) ?_ ?_
      rotate_left
      · simp only [Act.put, List.setIfInBounds_toArray, List.set_cons_zero, List.set_cons_succ]
        rfl
      refine pure_ (i := 19) (N := some 103) (v := undef) (a' := ?_) #[true, true, true, true, true, true, true, true, true, true, true, true, true, true, true, true, true, true, true, true, false, false, false] rfl rfl (by kernel_rfl) (fun _ _ _ h => h) (Or.inr ⟨by rfl, rfl⟩) ?_ ?_
      rotate_left
      · simp only [Act.put, List.setIfInBounds_toArray, List.set_cons_zero, List.set_cons_succ]
        rfl
      refine pure_ (i := 20) (N := some 104) (v := undef) (a' := ?_) #[true, true, true, true, true, true, true, true, true, true, true, true, true, true, true, true, true, true, true, true, true, false, false] rfl rfl (by kernel_rfl) (fun _ _ _ h => h) (Or.inr ⟨by rfl, rfl⟩) ?_ ?_
      rotate_left
      · simp only [Act.put, List.setIfInBounds_toArray, List.set_cons_zero, List.set_cons_succ]
        rfl
      refine pure_ (i := 21) (N := some 105) (v := ?_) (a' := ?_) #[true, true, true, true, true, true, true, true, true, true, true, true, true, true, true, true, true, true, true, true, true, true, false] rfl rfl (by kernel_rfl) (fun _ _ _ h => h) (Or.inl ⟨by rfl, ?_⟩) ?_ ?_
      rotate_left
      · intro w'
        go_simp
        with_reducible rfl
      rotate_left
      · simp only [Act.put, List.setIfInBounds_toArray, List.set_cons_zero, List.set_cons_succ]
        rfl
      refine pure_ (i := 22) (N := some 15) (v := ?_) (a' := ?_) #[true, true, true, true, true, true, true, true, true, true, true, true, true, true, true, true, true, true, true, true, true, true, true] rfl rfl (by kernel_rfl) (fun _ _ _ h => h) (Or.inl ⟨by rfl, ?_⟩) ?_ ?_
      rotate_left
      · intro w'
        go_simp
        with_reducible rfl
      rotate_left
      · simp only [Act.put, List.setIfInBounds_toArray, List.set_cons_zero, List.set_cons_succ]
        rfl
      refine done_ (by kernel_rfl) ?_
      have HV2 : Hid (true = missB d s (e.f2.take (k + 1))) := Lib.hid (by rw [HST.out, ← HVk.out]; rfl)
      have HB2 : Hid (Below v4.heap.size v4 W) := HBk.out.trans (HBd.out.mono HBk.out.size)
      clear t0 t1 t2 e0 i0 i1 hHeld
      go_wp2_with (fail)
      go_roundw
      case rel => exact ⟨k + 1, by omega, by go_num, true, rfl, HV2, HB2⟩
      case measure => simp [intOf]; omega
    | false =>
      generalize hq1 : eqB (inC d.f1 u) = bl1
      have HQ1 := Lib.hid hq1
      clear hq1
      cases bl1 with
      | false =>
        go_upto_region 23 with (fail)
        refine start_ (n := 23) (S := (fun w' => w'.cell? ⟨(g + 1), 1, none⟩ = some (.slice A1 d.f1.length c1) ∧ w'.cell? ⟨(g + 1 + 1), 2, none⟩ = some (.slice (some ad) n k2) ∧ w'.cell? ⟨g, 1, none⟩ = some (.slice A0 s.f1.length c0) ∧ w'.cell? (ad.add k) = some (.string u))) (ds := [9]) #[false, false, false, false, false, false, false, false, false, false, false, false, false, false, false, false, false, false, false, false, false, false, false] (by kernel_rfl) rfl rfl ⟨t1, t2, t0, e0⟩ (fun hHeld => ?_)
        have HBd : Hid (Below wr.heap.size wr wr.drew) := (Below.refl _ _).drew
        generalize wr.drew = W at hHeld HBd ⊢
        refine pure_ (i := 0) (N := some 84) (v := ?_) (a' := ?_) #[true, false, false, false, false, false, false, false, false, false, false, false, false, false, false, false, false, false, false, false, false, false, false] rfl rfl (by kernel_rfl) (fun _ _ _ h => h) (Or.inl ⟨by rfl, ?_⟩) ?_ ?_
        rotate_left
        · intro w'
          go_simp
          with_reducible rfl
        rotate_left
        · simp only [Act.put, List.setIfInBounds_toArray, List.set_cons_zero, List.set_cons_succ]
          rfl
        refine pure_ (i := 1) (N := some 85) (v := ?_) (a' := ?_) #[true, true, false, false, false, false, false, false, false, false, false, false, false, false, false, false, false, false, false, false, false, false, false] rfl rfl (by kernel_rfl) (fun _ _ _ h => h) (Or.inl ⟨by rfl, ?_⟩) ?_ ?_
        rotate_left
        · intro w'
          go_simp
          with_reducible rfl
        rotate_left
        · simp only [Act.put, List.setIfInBounds_toArray, List.set_cons_zero, List.set_cons_succ]
          rfl
        refine pure_ (i := 2) (N := some 86) (v := ?_) (a' := ?_) #[true, true, true, false, false, false, false, false, false, false, false, false, false, false, false, false, false, false, false, false, false, false, false] rfl rfl (by kernel_rfl) (fun _ _ _ h => h) (Or.inl ⟨by rfl, ?_⟩) ?_ ?_
        rotate_left
        · intro w'
          go_simp
          with_reducible rfl
        rotate_left
        · simp only [Act.put, List.setIfInBounds_toArray, List.set_cons_zero, List.set_cons_succ]
          rfl
        refine take_ (i := 3) (N := some 87) (v := ?_) (a' := ?_) #[true, true, true, true, false, false, false, false, false, false, false, false, false, false, false, false, false, false, false, false, false, false, false] rfl rfl (by kernel_rfl) (fun _ _ _ h => h) (Or.inl ⟨by rfl, ?_⟩) hHeld ?_ ?_
        rotate_left
        · rintro w' ⟨s0, s1, s2, s3⟩
          go_simp
          with_reducible rfl
        rotate_left
        · simp only [Act.put, List.setIfInBounds_toArray, List.set_cons_zero, List.set_cons_succ]
          rfl
        refine pure_ (i := 4) (N := some 88) (v := ?_) (a' := ?_) #[true, true, true, true, true, false, false, false, false, false, false, false, false, false, false, false, false, false, false, false, false, false, false] rfl rfl (by kernel_rfl) (fun _ _ _ h => h) (Or.inl ⟨by rfl, ?_⟩) ?_ ?_
        rotate_left
        · intro w'
          go_simp
          with_reducible rfl
        rotate_left
        · simp only [Act.put, List.setIfInBounds_toArray, List.set_cons_zero, List.set_cons_succ]
          rfl
        refine take_ (i := 5) (N := some 89) (v := ?_) (a' := ?_) #[true, true, true, true, true, true, false, false, false, false, false, false, false, false, false, false, false, false, false, false, false, false, false] rfl rfl (by kernel_rfl) (fun _ _ _ h => h) (Or.inl ⟨by rfl, ?_⟩) hHeld ?_ ?_
        rotate_left
        · rintro w' ⟨s0, s1, s2, s3⟩
          go_simp
          with_reducible rfl
        rotate_left
        · simp only [Act.put, List.setIfInBounds_toArray, List.set_cons_zero, List.set_cons_succ]
          rfl
        refine pure_ (i := 6) (N := some 90) (v := ?_) (a' := ?_) #[true, true, true, true, true, true, true, false, false, false, false, false, false, false, false, false, false, false, false, false, false, false, false] rfl rfl (by kernel_rfl) (fun _ _ _ h => h) (Or.inl ⟨by rfl, ?_⟩) ?_ ?_
        rotate_left
        · intro w'
          go_simp
          with_reducible rfl
        rotate_left
        · simp only [Act.put, List.setIfInBounds_toArray, List.set_cons_zero, List.set_cons_succ]
          rfl
        refine pure_ (i := 7) (N := some 91) (v := ?_) (a' := ?_) #[true, true, true, true, true, true, true, true, false, false, false, false, false, false, false, false, false, false, false, false, false, false, false] rfl rfl (by kernel_rfl) (fun _ _ _ h => h) (Or.inl ⟨by rfl, ?_⟩) ?_ ?_
        rotate_left
        · intro w'
          go_simp
          with_reducible rfl
        rotate_left
        · simp only [Act.put, List.setIfInBounds_toArray, List.set_cons_zero, List.set_cons_succ]
          rfl
        refine take_ (i := 8) (N := some 92) (v := ?_) (a' := ?_) #[true, true, true, true, true, true, true, true, true, false, false, false, false, false, false, false, false, false, false, false, false, false, false] rfl rfl (by kernel_rfl) (fun _ _ _ h => h) (Or.inl ⟨by rfl, ?_⟩) hHeld ?_ ?_
        rotate_left
        · rintro w' ⟨s0, s1, s2, s3⟩
          go_simp
          with_reducible rfl
        rotate_left
        · simp only [Act.put, List.setIfInBounds_toArray, List.set_cons_zero, List.set_cons_succ]
          rfl
        refine last_ (i := 9) (N := some 93) #[true, true, true, true, true, true, true, true, true, true, false, false, false, false, false, false, false, false, false, false, false, false, false] rfl rfl (by kernel_rfl) (by decide) (fun K hK => ?_)
        refine goes_ Try.func27 (by kernel_rfl) rfl #[.slice A1 d.f1.length c1, .string u] (by rfl) rfl rfl (by simp only [List.map_toArray, List.map_cons, List.map_nil]; rfl) ?_
        refine (HD0.out _ u (HBw.out.trans (HBd.out.mono HBw.out.size))).mono ?_
        rw [HQ1.out]
        rintro e' w2 ⟨rfl, hb2⟩
        refine ⟨_, rfl, ?_⟩
        refine hK.out _ _ ?_
        have HB2 : Hid (Below v4.heap.size v4 w2) := HBk.out.trans ((HBd.out.trans (hb2.out.mono HBd.out.size)).mono HBk.out.size)
        clear hK K hHeld hb2
        refine norm_ (a' := ?_) ?_ ?_
        rotate_left
        · show Act.put _ (some 93) _ = _
          simp only [Act.put, List.setIfInBounds_toArray, List.set_cons_zero, List.set_cons_succ]
          rfl
        refine pure_ (i := 10) (N := some 94) (v := ?_) (a' := ?_) #[true, true, true, true, true, true, true, true, true, true, true, false, false, false, false, false, false, false, false, false, false, false, false] rfl rfl (by kernel_rfl) (fun _ _ _ h => h) (Or.inl ⟨by rfl, ?_⟩) ?_ ?_
        rotate_left
        · intro w'
          go_simp
          with_reducible rfl
        rotate_left
        · simp only [Act.put, List.setIfInBounds_toArray, List.set_cons_zero, List.set_cons_succ]
          rfl
        refine pure_ (i := 11) (N := some 95) (v := undef) (a' := ?_) #[true, true, true, true, true, true, true, true, true, true, true, true, false, false, false, false, false, false, false, false, false, false, false] rfl rfl (by kernel_rfl) (fun _ _ _ h => h) (Or.inr ⟨by rfl, rfl⟩) ?_ ?_
        rotate_left
        · simp only [Act.put, List.setIfInBounds_toArray, List.set_cons_zero, List.set_cons_succ]
          rfl
        refine pure_ (i := 12) (N := some 96) (v := undef) (a' := ?_) #[true, true, true, true, true, true, true, true, true, true, true, true, true, false, false, false, false, false, false, false, false, false, false] rfl rfl (by kernel_rfl) (fun _ _ _ h => h) (Or.inr ⟨by rfl, rfl⟩) ?_ ?_
        rotate_left
        · simp only [Act.put, List.setIfInBounds_toArray, List.set_cons_zero, List.set_cons_succ]
          rfl
        refine pure_ (i := 13) (N := some 97) (v := undef) (a' := ?_) #[true, true, true, true, true, true, true, true, true, true, true, true, true, true, false, false, false, false, false, false, false, false, false] rfl rfl (by kernel_rfl) (fun _ _ _ h => h) (Or.inr ⟨by rfl, rfl⟩) ?_ ?_
        rotate_left
        · simp only [Act.put, List.setIfInBounds_toArray, List.set_cons_zero, List.set_cons_succ]
          rfl
        refine pure_ (i := 14) (N := some 98) (v := undef) (a' := ?_) #[true, true, true, true, true, true, true, true, true, true, true, true, true, true, true, false, false, false, false, false, false, false, false] rfl rfl (by kernel_rfl) (fun _ _ _ h => h) (Or.inr ⟨by rfl, rfl⟩) ?_ ?_
        rotate_left
        · simp only [Act.put, List.setIfInBounds_toArray, List.set_cons_zero, List.set_cons_succ]
          rfl
        refine pure_ (i := 15) (N := some 99) (v := undef) (a' := ?_) #[true, true, true, true, true, true, true, true, true, true, true, true, true, true, true, true, false, false, false, false, false, false, false] rfl rfl (by kernel_rfl) (fun _ _ _ h => h) (Or.inr ⟨by rfl, rfl⟩) ?_ ?_
        rotate_left
        · simp only [Act.put, List.setIfInBounds_toArray, List.set_cons_zero, List.set_cons_succ]
          rfl
        refine pure_ (i := 16) (N := some 100) (v := undef) (a' := ?_) #[true, true, true, true, true, true, true, true, true, true, true, true, true, true, true, true, true, false, false, false, false, false, false] rfl rfl (by kernel_rfl) (fun _ _ _ h => h) (Or.inr ⟨by rfl, rfl⟩) ?_ ?_
        rotate_left
        · simp only [Act.put, List.setIfInBounds_toArray, List.set_cons_zero, List.set_cons_succ]
          rfl
        refine pure_ (i := 17) (N := some 101) (v := undef) (a' := ?_) #[true, true, true, true, true, true, true, true, true, true, true, true, true, true, true, true, true, true, false, false, false, false, false] rfl rfl (by kernel_rfl) (fun _ _ _ h => h) (Or.inr ⟨by rfl, rfl⟩) ?_ ?_
        rotate_left
        · simp only [Act.put, List.setIfInBounds_toArray, List.set_cons_zero, List.set_cons_succ]
          rfl
        refine pure_ (i := 18) (N := some 102) (v := undef) (a' := ?_) #[true, true, true, true, true, true, true, true, true, true, true, true, true, true, true, true, true, true, true, false, false, false, false] rfl rfl (by kernel_rfl) (fun _ _ _ h => h) (Or.inr ⟨by rfl, rfl⟩) ?_ ?_
        rotate_left
        · simp only [Act.put, List.setIfInBounds_toArray, List.set_cons_zero, List.set_cons_succ]
          rfl
        refine pure_ (i := 19) (N := some 103) (v := undef) (a' := ?_) #[true, true, true, true, true, true, true, true, true, true, true, true, true, true, true, true, true, true, true, true, false, false, false] rfl rfl (by kernel_rfl) (fun _ _ _ h => h) (Or.inr ⟨by rfl, rfl⟩) ?_ ?_
        rotate_left
        · simp only [Act.put, List.setIfInBounds_toArray, List.set_cons_zero, List.set_cons_succ]
          rfl
        refine pure_ (i := 20) (N := some 104) (v := ?_) (a' := ?_) #[true, true, true, true, true, true, true, true, true, true, true, true, true, true, true, true, true, true, true, true, true, false, false] rfl rfl (by kernel_rfl) (fun _ _ _ h => h) (Or.inl ⟨by rfl, ?_⟩) ?_ ?_
        rotate_left
        · intro w'
          go_simp
          with_reducible rfl
        rotate_left
        · simp only [Act.put, List.setIfInBounds_toArray, List.set_cons_zero, List.set_cons_succ]
          rfl
        refine pure_ (i := 21) (N := some 105) (v := ?_) (a' := ?_) #[true, true, true, true, true, true, true, true, true, true, true, true, true, true, true, true, true, true, true, true, true, true, false] rfl rfl (by kernel_rfl) (fun _ _ _ h => h) (Or.inl ⟨by rfl, ?_⟩) ?_ ?_
        rotate_left
        · intro w'
          go_simp
          with_reducible rfl
        rotate_left
        · simp only [Act.put, List.setIfInBounds_toArray, List.set_cons_zero, List.set_cons_succ]
          rfl
        refine pure_ (i := 22) (N := some 15) (v := ?_) (a' := ?_) #[true, true, true, true, true, true, true, true, true, true, true, true, true, true, true, true, true, true, true, true, true, true, true] rfl rfl (by kernel_rfl) (fun _ _ _ h => h) (Or.inl ⟨by rfl, ?_⟩) ?_ ?_
        rotate_left
        · intro w'
          go_simp
          with_reducible rfl
        rotate_left
        · simp only [Act.put, List.setIfInBounds_toArray, List.set_cons_zero, List.set_cons_succ]
          rfl
        refine done_ (by kernel_rfl) ?_
        have HV2 : Hid (false = missB d s (e.f2.take (k + 1))) := Lib.hid (by rw [HST.out, ← HVk.out, HQ1.out]; rfl)
        clear t0 t1 t2 e0 i0 i1
        go_wp2_with (fail)
        go_roundw
        case rel => exact ⟨k + 1, by omega, by go_num, false, rfl, HV2, HB2⟩
        case measure => simp [intOf]; omega
      | true =>
        generalize hq2 : eqB (inC s.f1 u) = bl2
        have HQ2 := Lib.hid hq2
        clear hq2
        go_upto_region 23 with (fail)
        refine start_ (n := 23) (S := (fun w' => w'.cell? ⟨(g + 1), 1, none⟩ = some (.slice A1 d.f1.length c1) ∧ w'.cell? ⟨(g + 1 + 1), 2, none⟩ = some (.slice (some ad) n k2) ∧ w'.cell? ⟨g, 1, none⟩ = some (.slice A0 s.f1.length c0) ∧ w'.cell? (ad.add k) = some (.string u))) (ds := [18]) #[false, false, false, false, false, false, false, false, false, false, false, false, false, false, false, false, false, false, false, false, false, false, false] (by kernel_rfl) rfl rfl ⟨t1, t2, t0, e0⟩ (fun hHeld => ?_)
        have HBd : Hid (Below wr.heap.size wr wr.drew) := (Below.refl _ _).drew
        generalize wr.drew = W at hHeld HBd ⊢
        refine pure_ (i := 0) (N := some 84) (v := ?_) (a' := ?_) #[true, false, false, false, false, false, false, false, false, false, false, false, false, false, false, false, false, false, false, false, false, false, false] rfl rfl (by kernel_rfl) (fun _ _ _ h => h) (Or.inl ⟨by rfl, ?_⟩) ?_ ?_
        rotate_left
        · intro w'
          go_simp
          with_reducible rfl
        rotate_left
        · simp only [Act.put, List.setIfInBounds_toArray, List.set_cons_zero, List.set_cons_succ]
          rfl
        refine pure_ (i := 1) (N := some 85) (v := ?_) (a' := ?_) #[true, true, false, false, false, false, false, false, false, false, false, false, false, false, false, false, false, false, false, false, false, false, false] rfl rfl (by kernel_rfl) (fun _ _ _ h => h) (Or.inl ⟨by rfl, ?_⟩) ?_ ?_
        rotate_left
        · intro w'
          go_simp
          with_reducible rfl
        rotate_left
        · simp only [Act.put, List.setIfInBounds_toArray, List.set_cons_zero, List.set_cons_succ]
          rfl
        refine pure_ (i := 2) (N := some 86) (v := ?_) (a' := ?_) #[true, true, true, false, false, false, false, false, false, false, false, false, false, false, false, false, false, false, false, false, false, false, false] rfl rfl (by kernel_rfl) (fun _ _ _ h => h) (Or.inl ⟨by rfl, ?_⟩) ?_ ?_
        rotate_left
        · intro w'
          go_simp
          with_reducible rfl
        rotate_left
        · simp only [Act.put, List.setIfInBounds_toArray, List.set_cons_zero, List.set_cons_succ]
          rfl
        refine take_ (i := 3) (N := some 87) (v := ?_) (a' := ?_) #[true, true, true, true, false, false, false, false, false, false, false, false, false, false, false, false, false, false, false, false, false, false, false] rfl rfl (by kernel_rfl) (fun _ _ _ h => h) (Or.inl ⟨by rfl, ?_⟩) hHeld ?_ ?_
        rotate_left
        · rintro w' ⟨s0, s1, s2, s3⟩
          go_simp
          with_reducible rfl
        rotate_left
        · simp only [Act.put, List.setIfInBounds_toArray, List.set_cons_zero, List.set_cons_succ]
          rfl
        refine pure_ (i := 4) (N := some 88) (v := ?_) (a' := ?_) #[true, true, true, true, true, false, false, false, false, false, false, false, false, false, false, false, false, false, false, false, false, false, false] rfl rfl (by kernel_rfl) (fun _ _ _ h => h) (Or.inl ⟨by rfl, ?_⟩) ?_ ?_
        rotate_left
        · intro w'
          go_simp
          with_reducible rfl
        rotate_left
        · simp only [Act.put, List.setIfInBounds_toArray, List.set_cons_zero, List.set_cons_succ]
          rfl
        refine take_ (i := 5) (N := some 89) (v := ?_) (a' := ?_) #[true, true, true, true, true, true, false, false, false, false, false, false, false, false, false, false, false, false, false, false, false, false, false] rfl rfl (by kernel_rfl) (fun _ _ _ h => h) (Or.inl ⟨by rfl, ?_⟩) hHeld ?_ ?_
        rotate_left
        · rintro w' ⟨s0, s1, s2, s3⟩
          go_simp
          with_reducible rfl
        rotate_left
        · simp only [Act.put, List.setIfInBounds_toArray, List.set_cons_zero, List.set_cons_succ]
          rfl
        refine pure_ (i := 6) (N := some 90) (v := ?_) (a' := ?_) #[true, true, true, true, true, true, true, false, false, false, false, false, false, false, false, false, false, false, false, false, false, false, false] rfl rfl (by kernel_rfl) (fun _ _ _ h => h) (Or.inl ⟨by rfl, ?_⟩) ?_ ?_
        rotate_left
        · intro w'
          go_simp
          with_reducible rfl
        rotate_left
        · simp only [Act.put, List.setIfInBounds_toArray, List.set_cons_zero, List.set_cons_succ]
          rfl
        refine pure_ (i := 7) (N := some 91) (v := ?_) (a' := ?_) #[true, true, true, true, true, true, true, true, false, false, false, false, false, false, false, false, false, false, false, false, false, false, false] rfl rfl (by kernel_rfl) (fun _ _ _ h => h) (Or.inl ⟨by rfl, ?_⟩) ?_ ?_
        rotate_left
        · intro w'
          go_simp
          with_reducible rfl
        rotate_left
        · simp only [Act.put, List.setIfInBounds_toArray, List.set_cons_zero, List.set_cons_succ]
          rfl
        refine take_ (i := 8) (N := some 92) (v := ?_) (a' := ?_) #[true, true, true, true, true, true, true, true, true, false, false, false, false, false, false, false, false, false, false, false, false, false, false] rfl rfl (by kernel_rfl) (fun _ _ _ h => h) (Or.inl ⟨by rfl, ?_⟩) hHeld ?_ ?_
        rotate_left
        · rintro w' ⟨s0, s1, s2, s3⟩
          go_simp
          with_reducible rfl
        rotate_left
        · simp only [Act.put, List.setIfInBounds_toArray, List.set_cons_zero, List.set_cons_succ]
          rfl
        refine one_ (i := 9) (N := some 93) #[true, true, true, true, true, true, true, true, true, true, false, false, false, false, false, false, false, false, false, false, false, false, false] rfl rfl (by kernel_rfl) (by decide) (fun K hK => ?_)
        refine goes_ Try.func27 (by kernel_rfl) rfl #[.slice A1 d.f1.length c1, .string u] (by rfl) rfl rfl (by simp only [List.map_toArray, List.map_cons, List.map_nil]; rfl) ?_
        refine (HD0.out _ u (HBw.out.trans (HBd.out.mono HBw.out.size))).mono ?_
        rw [HQ1.out]
        rintro e' w2 ⟨rfl, hb2⟩
        refine ⟨_, rfl, ?_⟩
        refine hK.out _ _ ⟨pw_cell_below hb2.out hHeld.1, pw_cell_below hb2.out hHeld.2.1, pw_cell_below hb2.out hHeld.2.2.1, pw_cell_below hb2.out hHeld.2.2.2⟩ (fun hHeld => ?_)
        have HBc : Hid (Below wr.heap.size wr w2) := HBd.out.trans (hb2.out.mono HBd.out.size)
        clear hK K hb2
        refine norm_ (a' := ?_) ?_ ?_
        rotate_left
        · show Act.put _ (some 93) _ = _
          simp only [Act.put, List.setIfInBounds_toArray, List.set_cons_zero, List.set_cons_succ]
          rfl
        refine pure_ (i := 10) (N := some 94) (v := ?_) (a' := ?_) #[true, true, true, true, true, true, true, true, true, true, true, false, false, false, false, false, false, false, false, false, false, false, false] rfl rfl (by kernel_rfl) (fun _ _ _ h => h) (Or.inl ⟨by rfl, ?_⟩) ?_ ?_
        rotate_left
        · intro w'
          go_simp
          with_reducible rfl
        rotate_left
        · simp only [Act.put, List.setIfInBounds_toArray, List.set_cons_zero, List.set_cons_succ]
          rfl
        refine pure_ (i := 11) (N := some 95) (v := ?_) (a' := ?_) #[true, true, true, true, true, true, true, true, true, true, true, true, false, false, false, false, false, false, false, false, false, false, false] rfl rfl (by kernel_rfl) (fun _ _ _ h => h) (Or.inl ⟨by rfl, ?_⟩) ?_ ?_
        rotate_left
        · intro w'
          go_simp
          with_reducible rfl
        rotate_left
        · simp only [Act.put, List.setIfInBounds_toArray, List.set_cons_zero, List.set_cons_succ]
          rfl
        refine take_ (i := 12) (N := some 96) (v := ?_) (a' := ?_) #[true, true, true, true, true, true, true, true, true, true, true, true, true, false, false, false, false, false, false, false, false, false, false] rfl rfl (by kernel_rfl) (fun _ _ _ h => h) (Or.inl ⟨by rfl, ?_⟩) hHeld ?_ ?_
        rotate_left
        · rintro w' ⟨s0, s1, s2, s3⟩
          go_simp
          with_reducible rfl
        rotate_left
        · simp only [Act.put, List.setIfInBounds_toArray, List.set_cons_zero, List.set_cons_succ]
          rfl
        refine pure_ (i := 13) (N := some 97) (v := ?_) (a' := ?_) #[true, true, true, true, true, true, true, true, true, true, true, true, true, true, false, false, false, false, false, false, false, false, false] rfl rfl (by kernel_rfl) (fun _ _ _ h => h) (Or.inl ⟨by rfl, ?_⟩) ?_ ?_
        rotate_left
        · intro w'
          go_simp
          with_reducible rfl
        rotate_left
        · simp only [Act.put, List.setIfInBounds_toArray, List.set_cons_zero, List.set_cons_succ]
          rfl
        refine take_ (i := 14) (N := some 98) (v := ?_) (a' := ?_) #[true, true, true, true, true, true, true, true, true, true, true, true, true, true, true, false, false, false, false, false, false, false, false] rfl rfl (by kernel_rfl) (fun _ _ _ h => h) (Or.inl ⟨by rfl, ?_⟩) hHeld ?_ ?_
        rotate_left
        · rintro w' ⟨s0, s1, s2, s3⟩
          go_simp
          with_reducible rfl
        rotate_left
        · simp only [Act.put, List.setIfInBounds_toArray, List.set_cons_zero, List.set_cons_succ]
          rfl
        refine pure_ (i := 15) (N := some 99) (v := ?_) (a' := ?_) #[true, true, true, true, true, true, true, true, true, true, true, true, true, true, true, true, false, false, false, false, false, false, false] rfl rfl (by kernel_rfl) (fun _ _ _ h => h) (Or.inl ⟨by rfl, ?_⟩) ?_ ?_
        rotate_left
        · intro w'
          go_simp
          with_reducible rfl
        rotate_left
        · simp only [Act.put, List.setIfInBounds_toArray, List.set_cons_zero, List.set_cons_succ]
          rfl
        refine pure_ (i := 16) (N := some 100) (v := ?_) (a' := ?_) #[true, true, true, true, true, true, true, true, true, true, true, true, true, true, true, true, true, false, false, false, false, false, false] rfl rfl (by kernel_rfl) (fun _ _ _ h => h) (Or.inl ⟨by rfl, ?_⟩) ?_ ?_
        rotate_left
        · intro w'
          go_simp
          with_reducible rfl
        rotate_left
        · simp only [Act.put, List.setIfInBounds_toArray, List.set_cons_zero, List.set_cons_succ]
          rfl
        refine take_ (i := 17) (N := some 101) (v := ?_) (a' := ?_) #[true, true, true, true, true, true, true, true, true, true, true, true, true, true, true, true, true, true, false, false, false, false, false] rfl rfl (by kernel_rfl) (fun _ _ _ h => h) (Or.inl ⟨by rfl, ?_⟩) hHeld ?_ ?_
        rotate_left
        · rintro w' ⟨s0, s1, s2, s3⟩
          go_simp
          with_reducible rfl
        rotate_left
        · simp only [Act.put, List.setIfInBounds_toArray, List.set_cons_zero, List.set_cons_succ]
          rfl
        refine last_ (i := 18) (N := some 102) #[true, true, true, true, true, true, true, true, true, true, true, true, true, true, true, true, true, true, true, false, false, false, false] rfl rfl (by kernel_rfl) (by decide) (fun K hK => ?_)
        refine goes_ Try.func27 (by kernel_rfl) rfl #[.slice A0 s.f1.length c0, .string u] (by rfl) rfl rfl (by simp only [List.map_toArray, List.map_cons, List.map_nil]; rfl) ?_
        refine (HS0.out _ u (HBw.out.trans (HBc.out.mono HBw.out.size))).mono ?_
        rw [HQ2.out]
        rintro e' w3 ⟨rfl, hb3⟩
        refine ⟨_, rfl, ?_⟩
        refine hK.out _ _ ?_
        have HB2 : Hid (Below v4.heap.size v4 w3) := HBk.out.trans ((HBc.out.trans (hb3.out.mono HBc.out.size)).mono HBk.out.size)
        clear hK K hHeld hb3
        refine norm_ (a' := ?_) ?_ ?_
        rotate_left
        · show Act.put _ (some 102) _ = _
          simp only [Act.put, List.setIfInBounds_toArray, List.set_cons_zero, List.set_cons_succ]
          rfl
        refine pure_ (i := 19) (N := some 103) (v := ?_) (a' := ?_) #[true, true, true, true, true, true, true, true, true, true, true, true, true, true, true, true, true, true, true, true, false, false, false] rfl rfl (by kernel_rfl) (fun _ _ _ h => h) (Or.inl ⟨by rfl, ?_⟩) ?_ ?_
        rotate_left
        · intro w'
          go_simp
          with_reducible rfl
        rotate_left
        · simp only [Act.put, List.setIfInBounds_toArray, List.set_cons_zero, List.set_cons_succ]
          rfl
        refine pure_ (i := 20) (N := some 104) (v := ?_) (a' := ?_) #[true, true, true, true, true, true, true, true, true, true, true, true, true, true, true, true, true, true, true, true, true, false, false] rfl rfl (by kernel_rfl) (fun _ _ _ h => h) (Or.inl ⟨by rfl, ?_⟩) ?_ ?_
        rotate_left
        · intro w'
          go_simp
          with_reducible rfl
        rotate_left
        · simp only [Act.put, List.setIfInBounds_toArray, List.set_cons_zero, List.set_cons_succ]
          rfl
        refine pure_ (i := 21) (N := some 105) (v := ?_) (a' := ?_) #[true, true, true, true, true, true, true, true, true, true, true, true, true, true, true, true, true, true, true, true, true, true, false] rfl rfl (by kernel_rfl) (fun _ _ _ h => h) (Or.inl ⟨by rfl, ?_⟩) ?_ ?_
        rotate_left
        · intro w'
          go_simp
          with_reducible rfl
        rotate_left
        · simp only [Act.put, List.setIfInBounds_toArray, List.set_cons_zero, List.set_cons_succ]
          rfl
        refine pure_ (i := 22) (N := some 15) (v := ?_) (a' := ?_) #[true, true, true, true, true, true, true, true, true, true, true, true, true, true, true, true, true, true, true, true, true, true, true] rfl rfl (by kernel_rfl) (fun _ _ _ h => h) (Or.inl ⟨by rfl, ?_⟩) ?_ ?_
        rotate_left
        · intro w'
          go_simp
          with_reducible rfl
        rotate_left
        · simp only [Act.put, List.setIfInBounds_toArray, List.set_cons_zero, List.set_cons_succ]
          rfl
        refine done_ (by kernel_rfl) ?_
        have HV2 : Hid ((!bl2) = missB d s (e.f2.take (k + 1))) := Lib.hid (by rw [HST.out, ← HVk.out, HQ1.out, HQ2.out]; rfl)
        clear t0 t1 t2 e0 i0 i1
        go_wp2_with (fail)
        go_roundw
        case rel => exact ⟨k + 1, by omega, by go_num, !bl2, rfl, HV2, HB2⟩
        case measure => simp [intOf]; omega
end Go.Proofs.Ytpplnhefpcofoaa.PDeltaJoin
