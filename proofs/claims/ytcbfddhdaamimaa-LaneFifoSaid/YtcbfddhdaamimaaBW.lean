/- Any call of a script. -/
import Derived.Test.YtcbfddhdaamimaaBS
namespace Go.Proofs.Ytcbfddhdaamimaa.PLaneFifo
open Go.RowKit Go.Conc Go.Proofs.YtcbfddhdaamimaaW.PrintWords Go.Proofs.YtcbfddhdaamimaaW.PrintLast
set_option linter.unusedVariables false
set_option linter.unusedSimpArgs false

theorem Both.mono {own : Nat → Nat} {w : World} {g b : Nat} {rm : Int} {t t' : Nat} (h : Both own w g b rm t) (ht : t ≤ t') : Both own w g b rm t' := by
  obtain ⟨l, c, cap, s, r, q, ms, oR, oM, Ar, cr, Am, cm, h1, h2, h3, h4, h5, h6⟩ := h
  exact ⟨l, c, cap, s, r, q, ms, oR, oM, Ar, cr, Am, cm, h1, h2, h3, h4, h5, Nat.le_trans h6 ht⟩
theorem StepTo.mono {own : Nat → Nat} {w w' : World} {g b : Nat} {rm : Int} {t t' : Nat} (h : StepTo own w g b rm t w') (ht : t ≤ t') : StepTo own w g b rm t' w' := by
  obtain ⟨o, h1, h2⟩ := h
  exact ⟨o, h1, Lib.hid (h2.out.mono ht)⟩
theorem step21_all (own : Nat → Nat) (w : World) (g b : Nat) (rm : Int) (tot : Nat) (hB : Both own w g b rm tot) (h0 : 0 ≤ rm) (kd : Int) (fb : Bool) (A2 : Option Addr) (c2 : Nat) (A3 : Option Addr) (n3 c3 : Nat) (ys : List S35) (lys : List Pr) (hE : lys.map (·.1) = ys) (hC : StC (pk k35 own w) own w A2 ys.length lys) (hlen : tot + ys.length ≤ 10000) (hp : ∀ y ∈ ys, partsR y.f1 ≤ 100000) :
    Calls Try.prog 21 #[.pointer (some ⟨b, 0, none⟩), .pointer (some ⟨g, 0, none⟩), .int .i64 rm, .agg #[.int .i64 kd, .bool fb, .slice A2 ys.length c2, .slice A3 n3 c3]] w fun e w' => e = .returned (.bool true) ∧ StepTo own w g b rm (tot + ys.length) w' := by
  obtain ⟨l, c, cap, s, r, q, ms, oR, oM, Ar, cr, Am, cm, h1, h2, h3, h4, h5, h6⟩ := hB
  have hq9 : q.length ≤ 10000 := by omega
  have hm9 : ms.length ≤ 10000 := by omega
  by_cases e1 : kd = 1
  · subst e1
    exact (step21_put own w g b rm l c cap s r h1 q ms oR oM Ar Am cr cm h2 h3 h4 h5 h0 hq9 hm9 fb A2 c2 A3 n3 c3 ys lys hE hC (by omega) hp).mono (fun e w' h => ⟨h.1, h.2.mono (by omega)⟩)
  by_cases e2 : kd = 2
  · subst e2
    rcases l with _ | ⟨⟨x, cs⟩, l'⟩
    · exact (step21_take0 own w g b rm [] c cap s r h1 q ms oR oM Ar Am cr cm h2 h3 h4 h5 h0 hq9 hm9 fb A2 _ c2 A3 n3 c3 rfl).mono (fun e w' h => ⟨h.1, h.2.mono (by omega)⟩)
    · obtain ⟨D5, e5, D6, e6, hcs, -⟩ := k35_open (h1.st (x, cs) (by simp)).now
      simp only [] at hcs
      by_cases hz : x.f0 = 0
      · subst hcs
        exact (step21_take_r own w g b rm _ c cap s r h1 q ms oR oM Ar Am cr cm h2 h3 h4 h5 h0 hq9 hm9 fb A2 _ c2 A3 n3 c3 x D5 e5 D6 e6 l' rfl hz).mono (fun e w' h => ⟨h.1, h.2.mono (by omega)⟩)
      · have hx := h4 x (by simp)
        have hpos : 0 < x.f0 := by omega
        have hxe : (⟨x.f0, z33⟩ : S35) = x := by
          have := hx.1
          unfold cop at this
          rw [if_pos hpos] at this
          exact this
        obtain ⟨m, rx⟩ := x
        obtain rfl : z33 = rx := congrArg S35.f1 hxe
        subst hcs
        exact (step21_take_m own w g b rm _ c cap s r h1 q ms oR oM Ar Am cr cm h2 h3 h4 h5 h0 hq9 hm9 fb A2 _ c2 A3 n3 c3 m D5 e5 D6 e6 l' rfl hpos).mono (fun e w' h => ⟨h.1, h.2.mono (by omega)⟩)
  by_cases e4 : kd = 4
  · subst e4
    by_cases hno : ∀ x ∈ l.map (·.1), ¬ 0 < x.f0
    · exact (step21_pull0 own w g b rm l c cap s r h1 q ms oR oM Ar Am cr cm h2 h3 h4 h5 h0 hq9 hm9 fb A2 _ c2 A3 n3 c3 hno).mono (fun e w' h => ⟨h.1, h.2.mono (by omega)⟩)
    · exact (step21_pull1 own w g b rm l c cap s r h1 q ms oR oM Ar Am cr cm h2 h3 h4 h5 h0 hq9 hm9 fb A2 _ c2 A3 n3 c3 hno).mono (fun e w' h => ⟨h.1, h.2.mono (by omega)⟩)
  by_cases e7 : kd = 7
  · subst e7
    by_cases hr : rm = 0
    · exact (step21_full0 own w g b rm l c cap s r h1 q ms oR oM Ar Am cr cm h2 h3 h4 h5 h0 hq9 hm9 fb A2 _ c2 A3 n3 c3 hr).mono (fun e w' h => ⟨h.1, h.2.mono (by omega)⟩)
    · by_cases hx : rm ≤ recs l
      · exact (step21_full1 own w g b rm l c cap s r h1 q ms oR oM Ar Am cr cm h2 h3 h4 h5 h0 hq9 hm9 fb A2 _ c2 A3 n3 c3 (by omega) hx).mono (fun e w' h => ⟨h.1, h.2.mono (by omega)⟩)
      · exact (step21_full2 own w g b rm l c cap s r h1 q ms oR oM Ar Am cr cm h2 h3 h4 h5 h0 hq9 hm9 fb A2 _ c2 A3 n3 c3 (by omega) hx).mono (fun e w' h => ⟨h.1, h.2.mono (by omega)⟩)
  exact (step21_other own w g b rm l c cap s r h1 q ms oR oM Ar Am cr cm h2 h3 h4 h5 h0 hq9 hm9 fb A2 _ c2 A3 n3 c3 kd e1 e2 e4 e7).mono (fun e w' h => ⟨h.1, h.2.mono (by omega)⟩)
end Go.Proofs.Ytcbfddhdaamimaa.PLaneFifo
