/- assoc, walked. -/
import Derived.Test.YtpplnhefpcofoaaCT
namespace Go.Proofs.Ytpplnhefpcofoaa.PDeltaJoin
open Go.RowKit Go.Proofs.YtpplnhefpcofoaaW.PrintWords Go.Proofs.YtpplnhefpcofoaaW.PrintLast
set_option linter.unusedVariables false
set_option linter.unusedSimpArgs false

def joinD (x y : S27) : S27 := ⟨(joinP x.f0 x.f1 x.f2 y.f0 y.f1 y.f2).1, (joinP x.f0 x.f1 x.f2 y.f0 y.f1 y.f2).2.1, (joinP x.f0 x.f1 x.f2 y.f0 y.f1 y.f2).2.2.1⟩
def joinE (x y : S27) : Int := (joinP x.f0 x.f1 x.f2 y.f0 y.f1 y.f2).2.2.2
/-- A delta and a number, answered: its lists may be read from here on. -/
def DD (z : S27) (m : Int) (w : World) (e : Ending) (w' : World) : Prop :=
  ∃ A c B k, e = .returned (.tuple #[.agg #[.int .i64 z.f0, .slice A z.f1.length c, .slice B z.f2.length k], .int .i64 m]) ∧ Hid (Kd.C k63 w' A z.f1.length z.f1) ∧ Hid (Kd.C Kd.string w' B z.f2.length z.f2) ∧ Hid (Below w.heap.size w w') ∧ Hid (z.f1.length ≤ c ∧ z.f2.length ≤ k)
theorem DAns.dd {r : Int × List S63 × List ByteArray × Int} {w w' : World} {e : Ending} (h : DAns r w e w') : DD ⟨r.1, r.2.1, r.2.2.1⟩ r.2.2.2 w e w' := by
  obtain ⟨vs, vg, rfl, h1, h2, h3⟩ := h
  obtain ⟨A, c, rfl, l1, C1⟩ := Kd.R_reads h1.out
  obtain ⟨B, k, rfl, l2, C2⟩ := Kd.R_reads h2.out
  exact ⟨A, c, B, k, rfl, Lib.hid C1, Lib.hid C2, h3, Lib.hid ⟨l1, l2⟩⟩
theorem joinD20 (x y : S27) (A B A2 B2 : Option Addr) (c k c2 k2 : Nat) (w : World) (hA : Kd.C k63 w A x.f1.length x.f1) (hB : Kd.C Kd.string w B x.f2.length x.f2) (hA2 : Kd.C k63 w A2 y.f1.length y.f1) (hB2 : Kd.C Kd.string w B2 y.f2.length y.f2) :
    Calls Try.prog 20 #[.agg #[.int .i64 x.f0, .slice A x.f1.length c, .slice B x.f2.length k], .agg #[.int .i64 y.f0, .slice A2 y.f1.length c2, .slice B2 y.f2.length k2]] w fun e w' => DD (joinD x y) (joinE x y) w e w' :=
  (join20 x.f0 x.f1 x.f2 y.f0 y.f1 y.f2 A B A2 B2 c k c2 k2 w hA hB hA2 hB2).mono (fun _ _ h => h.dd)
/-- What assoc says. -/
noncomputable def assocP (d e f : S27) : Bool := if joinE d e ≠ 0 ∨ joinE e f ≠ 0 then true else if joinE (joinD d e) f ≠ 0 ∨ joinE d (joinD e f) ≠ 0 then true else eqB (joinD (joinD d e) f = joinD d (joinD e f))
set_option maxRecDepth 100000 in
set_option maxHeartbeats 16000000 in
theorem assoc28 (d e f : S27) (A1 B1 A2 B2 A3 B3 : Option Addr) (c1 k1 c2 k2 c3 k3 : Nat) (w : World) (h1 : Kd.C k63 w A1 d.f1.length d.f1) (h2 : Kd.C Kd.string w B1 d.f2.length d.f2) (h3 : Kd.C k63 w A2 e.f1.length e.f1) (h4 : Kd.C Kd.string w B2 e.f2.length e.f2) (h5 : Kd.C k63 w A3 f.f1.length f.f1) (h6 : Kd.C Kd.string w B3 f.f2.length f.f2) :
    Calls Try.prog 28 #[.agg #[.int .i64 d.f0, .slice A1 d.f1.length c1, .slice B1 d.f2.length k1], .agg #[.int .i64 e.f0, .slice A2 e.f1.length c2, .slice B2 e.f2.length k2], .agg #[.int .i64 f.f0, .slice A3 f.f1.length c3, .slice B3 f.f2.length k3]] w fun e' w' => SaysB (assocP d e f) w e' w' := by
  have H0 : Hid ((((w.alloc (.cells #[.int .i64 d.f0, .slice A1 d.f1.length c1, .slice B1 d.f2.length k1] 27)).alloc (.cells #[.int .i64 e.f0, .slice A2 e.f1.length c2, .slice B2 e.f2.length k2] 27)).alloc (.cells #[.int .i64 f.f0, .slice A3 f.f1.length c3, .slice B3 f.f2.length k3] 27)).heap[w.heap.size]? = some (.cells #[.int .i64 d.f0, .slice A1 d.f1.length c1, .slice B1 d.f2.length k1] 27 (0, 0))) := Lib.hid (blk_alloc (blk_alloc (blk_new w _) _) _)
  have H1 : Hid ((((w.alloc (.cells #[.int .i64 d.f0, .slice A1 d.f1.length c1, .slice B1 d.f2.length k1] 27)).alloc (.cells #[.int .i64 e.f0, .slice A2 e.f1.length c2, .slice B2 e.f2.length k2] 27)).alloc (.cells #[.int .i64 f.f0, .slice A3 f.f1.length c3, .slice B3 f.f2.length k3] 27)).heap[w.heap.size + 1]? = some (.cells #[.int .i64 e.f0, .slice A2 e.f1.length c2, .slice B2 e.f2.length k2] 27 (0, 0))) := Lib.hid (by
    have := blk_new (w.alloc (.cells #[.int .i64 d.f0, .slice A1 d.f1.length c1, .slice B1 d.f2.length k1] 27)) (.cells #[.int .i64 e.f0, .slice A2 e.f1.length c2, .slice B2 e.f2.length k2] 27)
    rw [World.size_alloc] at this
    exact blk_alloc this _)
  have H2 : Hid ((((w.alloc (.cells #[.int .i64 d.f0, .slice A1 d.f1.length c1, .slice B1 d.f2.length k1] 27)).alloc (.cells #[.int .i64 e.f0, .slice A2 e.f1.length c2, .slice B2 e.f2.length k2] 27)).alloc (.cells #[.int .i64 f.f0, .slice A3 f.f1.length c3, .slice B3 f.f2.length k3] 27)).heap[w.heap.size + 1 + 1]? = some (.cells #[.int .i64 f.f0, .slice A3 f.f1.length c3, .slice B3 f.f2.length k3] 27 (0, 0))) := Lib.hid (by
    have := blk_new ((w.alloc (.cells #[.int .i64 d.f0, .slice A1 d.f1.length c1, .slice B1 d.f2.length k1] 27)).alloc (.cells #[.int .i64 e.f0, .slice A2 e.f1.length c2, .slice B2 e.f2.length k2] 27)) (.cells #[.int .i64 f.f0, .slice A3 f.f1.length c3, .slice B3 f.f2.length k3] 27)
    rw [World.size_alloc, World.size_alloc] at this
    exact this)
  have HB : Hid (Below w.heap.size w (((w.alloc (.cells #[.int .i64 d.f0, .slice A1 d.f1.length c1, .slice B1 d.f2.length k1] 27)).alloc (.cells #[.int .i64 e.f0, .slice A2 e.f1.length c2, .slice B2 e.f2.length k2] 27)).alloc (.cells #[.int .i64 f.f0, .slice A3 f.f1.length c3, .slice B3 f.f2.length k3] 27))) := Lib.hid ((((Below.refl _ w).alloc (Nat.le_refl _) _).alloc (by simp) _).alloc (by simp; omega) _)
  have Q1 := Lib.hid h1
  have Q2 := Lib.hid h2
  have Q3 := Lib.hid h3
  have Q4 := Lib.hid h4
  have Q5 := Lib.hid h5
  have Q6 := Lib.hid h6
  clear h1 h2 h3 h4 h5 h6
  have HDE : Hid (∀ W, Below w.heap.size w W → Calls Try.prog 20 #[.agg #[.int .i64 d.f0, .slice A1 d.f1.length c1, .slice B1 d.f2.length k1], .agg #[.int .i64 e.f0, .slice A2 e.f1.length c2, .slice B2 e.f2.length k2]] W fun e' w' => DD (joinD d e) (joinE d e) W e' w') := Lib.hid (fun W h => joinD20 d e A1 B1 A2 B2 c1 k1 c2 k2 W (Kd.C_below Q1.out h) (Kd.C_below Q2.out h) (Kd.C_below Q3.out h) (Kd.C_below Q4.out h))
  have HEF : Hid (∀ W, Below w.heap.size w W → Calls Try.prog 20 #[.agg #[.int .i64 e.f0, .slice A2 e.f1.length c2, .slice B2 e.f2.length k2], .agg #[.int .i64 f.f0, .slice A3 f.f1.length c3, .slice B3 f.f2.length k3]] W fun e' w' => DD (joinD e f) (joinE e f) W e' w') := Lib.hid (fun W h => joinD20 e f A2 B2 A3 B3 c2 k2 c3 k3 W (Kd.C_below Q3.out h) (Kd.C_below Q4.out h) (Kd.C_below Q5.out h) (Kd.C_below Q6.out h))
  obtain ⟨tot, ht⟩ : ∃ t, t = assocP d e f := ⟨_, rfl⟩
  have HT := Lib.hid ht
  rw [← ht]
  clear ht
  go_enter Try.func28, Try.ntmps28
  go_upto_region 1 with (fail)
  generalize (((w.alloc (.cells #[.int .i64 d.f0, .slice A1 d.f1.length c1, .slice B1 d.f2.length k1] 27)).alloc (.cells #[.int .i64 e.f0, .slice A2 e.f1.length c2, .slice B2 e.f2.length k2] 27)).alloc (.cells #[.int .i64 f.f0, .slice A3 f.f1.length c3, .slice B3 f.f2.length k3] 27)) = wa at *
  obtain ⟨g, hg⟩ : ∃ g, g = w.heap.size := ⟨_, rfl⟩
  rw [← hg] at H0 H1 H2 ⊢
  have HG := Lib.hid hg
  clear hg
  have a0 : wa.cell? ⟨g, 0, none⟩ = some (.int .i64 d.f0) := blk_at H0.out 0 rfl
  have a1 : wa.cell? ⟨g, 1, none⟩ = some (.slice A1 d.f1.length c1) := blk_at H0.out 1 rfl
  have a2 : wa.cell? ⟨g, 2, none⟩ = some (.slice B1 d.f2.length k1) := blk_at H0.out 2 rfl
  have b0 : wa.cell? ⟨(g + 1), 0, none⟩ = some (.int .i64 e.f0) := blk_at H1.out 0 rfl
  have b1 : wa.cell? ⟨(g + 1), 1, none⟩ = some (.slice A2 e.f1.length c2) := blk_at H1.out 1 rfl
  have b2 : wa.cell? ⟨(g + 1), 2, none⟩ = some (.slice B2 e.f2.length k2) := blk_at H1.out 2 rfl
  generalize hz : joinD d e = x at HDE
  have X1 := Lib.hid hz
  clear hz
  generalize hz : joinE d e = m1 at HDE
  have M1 := Lib.hid hz
  clear hz
  go_upto_region 2 with (go_at_call 20; refine (HDE.out _ HB.out).mono ?_; rintro e' u1 ⟨A4, c4, B4, k4, rfl, C1, G1, hb1, _⟩
                         clear a0 a1 a2 b0 b1 b2)
  have HBu : Hid (Below wa.heap.size wa (u1.alloc (.cells #[.int .i64 x.f0, .slice A4 x.f1.length c4, .slice B4 x.f2.length k4] 27))) := Lib.hid (hb1.out.alloc hb1.out.size _)
  replace C1 := Lib.hid (Kd.C_alloc C1.out (.cells #[.int .i64 x.f0, .slice A4 x.f1.length c4, .slice B4 x.f2.length k4] 27))
  replace G1 := Lib.hid (Kd.C_alloc G1.out (.cells #[.int .i64 x.f0, .slice A4 x.f1.length c4, .slice B4 x.f2.length k4] 27))
  have K1 := Lib.hid (blk_new u1 (.cells #[.int .i64 x.f0, .slice A4 x.f1.length c4, .slice B4 x.f2.length k4] 27))
  replace H0 := Lib.hid (blk_below H0.out HBu.out)
  replace H1 := Lib.hid (blk_below H1.out HBu.out)
  replace H2 := Lib.hid (blk_below H2.out HBu.out)
  obtain ⟨b1, hbb⟩ : ∃ b, b = u1.heap.size := ⟨_, rfl⟩
  rw [← hbb] at K1 ⊢
  generalize u1.alloc (.cells #[.int .i64 x.f0, .slice A4 x.f1.length c4, .slice B4 x.f2.length k4] 27) = v1 at *
  have HB1 : Hid (Below w.heap.size w v1) := HB.out.trans (HBu.out.mono HB.out.size)
  have HB01 := HBu
  clear hbb hb1 HBu
  have a0 : v1.cell? ⟨(g + 1), 0, none⟩ = some (.int .i64 e.f0) := blk_at H1.out 0 rfl
  have a1 : v1.cell? ⟨(g + 1), 1, none⟩ = some (.slice A2 e.f1.length c2) := blk_at H1.out 1 rfl
  have a2 : v1.cell? ⟨(g + 1), 2, none⟩ = some (.slice B2 e.f2.length k2) := blk_at H1.out 2 rfl
  have b0 : v1.cell? ⟨(g + 1 + 1), 0, none⟩ = some (.int .i64 f.f0) := blk_at H2.out 0 rfl
  have b1 : v1.cell? ⟨(g + 1 + 1), 1, none⟩ = some (.slice A3 f.f1.length c3) := blk_at H2.out 1 rfl
  have b2 : v1.cell? ⟨(g + 1 + 1), 2, none⟩ = some (.slice B3 f.f2.length k3) := blk_at H2.out 2 rfl
  generalize hz : joinD e f = y at HEF
  have X2 := Lib.hid hz
  clear hz
  generalize hz : joinE e f = m2 at HEF
  have M2 := Lib.hid hz
  clear hz
  go_upto_region 3 with (go_at_call 20; refine (HEF.out _ HB1.out).mono ?_; rintro e' u2 ⟨A5, c5, B5, k5, rfl, C2, G2, hb2, _⟩
                         clear a0 a1 a2 b0 b1 b2)
  have HBu : Hid (Below v1.heap.size v1 (u2.alloc (.cells #[.int .i64 y.f0, .slice A5 y.f1.length c5, .slice B5 y.f2.length k5] 27))) := Lib.hid (hb2.out.alloc hb2.out.size _)
  replace C2 := Lib.hid (Kd.C_alloc C2.out (.cells #[.int .i64 y.f0, .slice A5 y.f1.length c5, .slice B5 y.f2.length k5] 27))
  replace G2 := Lib.hid (Kd.C_alloc G2.out (.cells #[.int .i64 y.f0, .slice A5 y.f1.length c5, .slice B5 y.f2.length k5] 27))
  have K2 := Lib.hid (blk_new u2 (.cells #[.int .i64 y.f0, .slice A5 y.f1.length c5, .slice B5 y.f2.length k5] 27))
  replace H0 := Lib.hid (blk_below H0.out HBu.out)
  replace H1 := Lib.hid (blk_below H1.out HBu.out)
  replace H2 := Lib.hid (blk_below H2.out HBu.out)
  replace K1 := Lib.hid (blk_below K1.out HBu.out)
  obtain ⟨b2, hbb⟩ : ∃ b, b = u2.heap.size := ⟨_, rfl⟩
  rw [← hbb] at K2 ⊢
  generalize u2.alloc (.cells #[.int .i64 y.f0, .slice A5 y.f1.length c5, .slice B5 y.f2.length k5] 27) = v2 at *
  have HB2 : Hid (Below w.heap.size w v2) := HB1.out.trans (HBu.out.mono HB1.out.size)
  have HB12 := HBu
  clear hbb hb2 HBu
  by_cases hm : m1 ≠ 0 ∨ m2 ≠ 0
  · have HV : Hid (tot = true) := Lib.hid (by rw [HT.out, assocP, M1.out, M2.out, if_pos hm])
    by_cases q1 : m1 = 0
    · have q2 : ¬ m2 = 0 := by rcases hm with h | h; exact absurd q1 h; exact h
      have n1 : (m2 == 0) = false := beq_false_of_ne q2
      have n2 : (m2 != 0) = true := by simp [q2]
      clear hm q2
      subst q1
      go_wp2_with (fail)
      go_ret
      rw [HV.out]
      exact ⟨rfl, HB2⟩
    · have n1 : (m1 == 0) = false := beq_false_of_ne q1
      have n2 : (m1 != 0) = true := by simp [q1]
      clear hm q1
      go_wp2_with (fail)
      go_ret
      rw [HV.out]
      exact ⟨rfl, HB2⟩
  obtain ⟨q1, q2⟩ : m1 = 0 ∧ m2 = 0 := by omega
  have HT2 : Hid (tot = if joinE x f ≠ 0 ∨ joinE d y ≠ 0 then true else eqB (joinD x f = joinD d y)) := Lib.hid (by rw [HT.out, assocP, M1.out, M2.out, if_neg hm, X1.out, X2.out])
  clear hm
  subst q1
  subst q2
  go_upto_region 5 with (fail)
  have HXF : Hid (∀ W, Below v2.heap.size v2 W → Calls Try.prog 20 #[.agg #[.int .i64 x.f0, .slice A4 x.f1.length c4, .slice B4 x.f2.length k4], .agg #[.int .i64 f.f0, .slice A3 f.f1.length c3, .slice B3 f.f2.length k3]] W fun e' w' => DD (joinD x f) (joinE x f) W e' w') := Lib.hid (fun W h => joinD20 x f A4 B4 A3 B3 c4 k4 c3 k3 W (Kd.C_below (Kd.C_below C1.out HB12.out) h) (Kd.C_below (Kd.C_below G1.out HB12.out) h) (Kd.C_below Q5.out (HB2.out.trans (h.mono HB2.out.size))) (Kd.C_below Q6.out (HB2.out.trans (h.mono HB2.out.size))))
  have HDY : Hid (∀ W, Below v2.heap.size v2 W → Calls Try.prog 20 #[.agg #[.int .i64 d.f0, .slice A1 d.f1.length c1, .slice B1 d.f2.length k1], .agg #[.int .i64 y.f0, .slice A5 y.f1.length c5, .slice B5 y.f2.length k5]] W fun e' w' => DD (joinD d y) (joinE d y) W e' w') := Lib.hid (fun W h => joinD20 d y A1 B1 A5 B5 c1 k1 c5 k5 W (Kd.C_below Q1.out (HB2.out.trans (h.mono HB2.out.size))) (Kd.C_below Q2.out (HB2.out.trans (h.mono HB2.out.size))) (Kd.C_below C2.out h) (Kd.C_below G2.out h))
  have HB22 : Hid (Below v2.heap.size v2 v2) := Lib.hid (Below.refl _ _)
  have a0 : v2.cell? ⟨b1, 0, none⟩ = some (.int .i64 x.f0) := blk_at K1.out 0 rfl
  have a1 : v2.cell? ⟨b1, 1, none⟩ = some (.slice A4 x.f1.length c4) := blk_at K1.out 1 rfl
  have a2 : v2.cell? ⟨b1, 2, none⟩ = some (.slice B4 x.f2.length k4) := blk_at K1.out 2 rfl
  have b0 : v2.cell? ⟨(g + 1 + 1), 0, none⟩ = some (.int .i64 f.f0) := blk_at H2.out 0 rfl
  have b1 : v2.cell? ⟨(g + 1 + 1), 1, none⟩ = some (.slice A3 f.f1.length c3) := blk_at H2.out 1 rfl
  have b2 : v2.cell? ⟨(g + 1 + 1), 2, none⟩ = some (.slice B3 f.f2.length k3) := blk_at H2.out 2 rfl
  generalize hz : joinD x f = p at HXF
  have X3 := Lib.hid hz
  clear hz
  generalize hz : joinE x f = m3 at HXF
  have M3 := Lib.hid hz
  clear hz
  go_upto_region 6 with (go_at_call 20; refine (HXF.out _ HB22.out).mono ?_; rintro e' u3 ⟨A6, c6, B6, k6, rfl, C3, G3, hb3, _⟩
                         clear a0 a1 a2 b0 b1 b2)
  have HBu : Hid (Below v2.heap.size v2 (u3.alloc (.cells #[.int .i64 p.f0, .slice A6 p.f1.length c6, .slice B6 p.f2.length k6] 27))) := Lib.hid (hb3.out.alloc hb3.out.size _)
  replace C3 := Lib.hid (Kd.C_alloc C3.out (.cells #[.int .i64 p.f0, .slice A6 p.f1.length c6, .slice B6 p.f2.length k6] 27))
  replace G3 := Lib.hid (Kd.C_alloc G3.out (.cells #[.int .i64 p.f0, .slice A6 p.f1.length c6, .slice B6 p.f2.length k6] 27))
  have K3 := Lib.hid (blk_new u3 (.cells #[.int .i64 p.f0, .slice A6 p.f1.length c6, .slice B6 p.f2.length k6] 27))
  replace H0 := Lib.hid (blk_below H0.out HBu.out)
  replace K1 := Lib.hid (blk_below K1.out HBu.out)
  replace K2 := Lib.hid (blk_below K2.out HBu.out)
  obtain ⟨b3, hbb⟩ : ∃ b, b = u3.heap.size := ⟨_, rfl⟩
  rw [← hbb] at K3 ⊢
  generalize u3.alloc (.cells #[.int .i64 p.f0, .slice A6 p.f1.length c6, .slice B6 p.f2.length k6] 27) = v3 at *
  have HB3 : Hid (Below v2.heap.size v2 v3) := HB22.out.trans (HBu.out.mono HB22.out.size)
  have HB23 := HBu
  clear hbb hb3 HBu
  have a0 : v3.cell? ⟨g, 0, none⟩ = some (.int .i64 d.f0) := blk_at H0.out 0 rfl
  have a1 : v3.cell? ⟨g, 1, none⟩ = some (.slice A1 d.f1.length c1) := blk_at H0.out 1 rfl
  have a2 : v3.cell? ⟨g, 2, none⟩ = some (.slice B1 d.f2.length k1) := blk_at H0.out 2 rfl
  have b0 : v3.cell? ⟨b2, 0, none⟩ = some (.int .i64 y.f0) := blk_at K2.out 0 rfl
  have b1 : v3.cell? ⟨b2, 1, none⟩ = some (.slice A5 y.f1.length c5) := blk_at K2.out 1 rfl
  have b2 : v3.cell? ⟨b2, 2, none⟩ = some (.slice B5 y.f2.length k5) := blk_at K2.out 2 rfl
  generalize hz : joinD d y = q at HDY
  have X4 := Lib.hid hz
  clear hz
  generalize hz : joinE d y = m4 at HDY
  have M4 := Lib.hid hz
  clear hz
  go_upto_region 7 with (go_at_call 20; refine (HDY.out _ HB3.out).mono ?_; rintro e' u4 ⟨A7, c7, B7, k7, rfl, C4, G4, hb4, _⟩
                         clear a0 a1 a2 b0 b1 b2)
  have HBu : Hid (Below v3.heap.size v3 (u4.alloc (.cells #[.int .i64 q.f0, .slice A7 q.f1.length c7, .slice B7 q.f2.length k7] 27))) := Lib.hid (hb4.out.alloc hb4.out.size _)
  replace C4 := Lib.hid (Kd.C_alloc C4.out (.cells #[.int .i64 q.f0, .slice A7 q.f1.length c7, .slice B7 q.f2.length k7] 27))
  replace G4 := Lib.hid (Kd.C_alloc G4.out (.cells #[.int .i64 q.f0, .slice A7 q.f1.length c7, .slice B7 q.f2.length k7] 27))
  have K4 := Lib.hid (blk_new u4 (.cells #[.int .i64 q.f0, .slice A7 q.f1.length c7, .slice B7 q.f2.length k7] 27))
  replace K3 := Lib.hid (blk_below K3.out HBu.out)
  obtain ⟨b4, hbb⟩ : ∃ b, b = u4.heap.size := ⟨_, rfl⟩
  rw [← hbb] at K4 ⊢
  generalize u4.alloc (.cells #[.int .i64 q.f0, .slice A7 q.f1.length c7, .slice B7 q.f2.length k7] 27) = v4 at *
  have HB4 : Hid (Below v2.heap.size v2 v4) := HB3.out.trans (HBu.out.mono HB3.out.size)
  have HB34 := HBu
  clear hbb hb4 HBu
  have HB4w : Hid (Below w.heap.size w v4) := HB2.out.trans (HB4.out.mono HB2.out.size)
  by_cases hm : m3 ≠ 0 ∨ m4 ≠ 0
  · have HV : Hid (tot = true) := Lib.hid (by rw [HT2.out, M3.out, M4.out, if_pos hm])
    by_cases q1 : m3 = 0
    · have q2 : ¬ m4 = 0 := by rcases hm with h | h; exact absurd q1 h; exact h
      have n1 : (m4 == 0) = false := beq_false_of_ne q2
      have n2 : (m4 != 0) = true := by simp [q2]
      clear hm q2
      subst q1
      go_wp2_with (fail)
      go_ret
      rw [HV.out]
      exact ⟨rfl, HB4w⟩
    · have n1 : (m3 == 0) = false := beq_false_of_ne q1
      have n2 : (m3 != 0) = true := by simp [q1]
      clear hm q1
      go_wp2_with (fail)
      go_ret
      rw [HV.out]
      exact ⟨rfl, HB4w⟩
  obtain ⟨q1, q2⟩ : m3 = 0 ∧ m4 = 0 := by omega
  have HV : Hid (tot = eqB (p = q)) := Lib.hid (by rw [HT2.out, M3.out, M4.out, if_neg hm, X3.out, X4.out])
  clear hm
  subst q1
  subst q2
  have HS := Lib.hid (sameD19 p q A6 A7 B6 B7 c6 c7 k6 k7 v4 v4 (Kd.C_below C3.out HB34.out) C4.out (Kd.C_below G3.out HB34.out) G4.out (Below.refl _ _))
  have a0 : v4.cell? ⟨b3, 0, none⟩ = some (.int .i64 p.f0) := blk_at K3.out 0 rfl
  have a1 : v4.cell? ⟨b3, 1, none⟩ = some (.slice A6 p.f1.length c6) := blk_at K3.out 1 rfl
  have a2 : v4.cell? ⟨b3, 2, none⟩ = some (.slice B6 p.f2.length k6) := blk_at K3.out 2 rfl
  have b0 : v4.cell? ⟨b4, 0, none⟩ = some (.int .i64 q.f0) := blk_at K4.out 0 rfl
  have b1 : v4.cell? ⟨b4, 1, none⟩ = some (.slice A7 q.f1.length c7) := blk_at K4.out 1 rfl
  have b2 : v4.cell? ⟨b4, 2, none⟩ = some (.slice B7 q.f2.length k7) := blk_at K4.out 2 rfl
  generalize eqB (p = q) = r at HS HV
  go_wp2_with (go_at_call 19; refine HS.out.mono ?_; rintro e' w1 ⟨rfl, hb1⟩
               have HBz : Hid (Below w.heap.size w w1) := HB4w.out.trans (hb1.out.mono HB4w.out.size)
               clear hb1)
  go_ret
  rw [HV.out]
  exact ⟨rfl, HBz⟩
end Go.Proofs.Ytpplnhefpcofoaa.PDeltaJoin
