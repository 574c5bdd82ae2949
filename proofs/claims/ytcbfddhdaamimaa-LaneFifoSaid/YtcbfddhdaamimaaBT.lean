/- Items go into the book. -/
import Derived.Test.YtcbfddhdaamimaaBR
namespace Go.Proofs.Ytcbfddhdaamimaa.PLaneFifo
open Go.RowKit Go.Conc Go.Proofs.YtcbfddhdaamimaaW.PrintWords Go.Proofs.YtcbfddhdaamimaaW.PrintLast
set_option linter.unusedVariables false
set_option linter.unusedSimpArgs false

/-- The book came to these items. -/
def BookTo (own : Nat → Nat) (w : World) (b : Nat) (xs : List S35) (oR oM tot : Nat) (w' : World) : Prop := ∃ own' q ms Ar cr Am cm, Hid (BookAt own' w' b q ms oR oM Ar cr Am cm) ∧ Hid (Upd (2 ≤ ·) own w own' w') ∧ Hid (Rel xs (q.map (·.1)) ms oR oM) ∧ q.length + ms.length ≤ tot
set_option maxRecDepth 100000 in
set_option maxHeartbeats 8000000 in
theorem put32 (own : Nat → Nat) (w : World) (b : Nat) (q : List Pq) (ms : List Int) (oR oM : Nat) (Ar Am : Option Addr) (cr cm : Nat) (h : BookAt own w b q ms oR oM Ar cr Am cm) (hq9 : q.length ≤ 10000) (hm9 : ms.length ≤ 10000) (rm : Int) (xs ys : List S35) (lys : List Pr) (A : Option Addr) (cc : Nat) (hE : lys.map (·.1) = ys) (hC : StC (pk k35 own w) own w A ys.length lys) (hR : Rel xs (q.map (·.1)) ms oR oM) (hlen : q.length + ms.length + ys.length ≤ 10000) :
    Calls Try.prog 32 #[.pointer (some ⟨b, 0, none⟩), .int .i64 rm, .slice A ys.length cc, .int .i64 ((putP rm xs ys).1 : Nat), .int .i64 (putP rm xs ys).2.1] w fun e w' => e = .returned (.bool true) ∧ BookTo own w b (putP rm xs ys).2.2 oR oM (q.length + ms.length + ys.length) w' := by
  have HBK := Lib.hid h
  have HC := Lib.hid hC
  have HE := Lib.hid hE
  have HR := Lib.hid hR
  obtain ⟨n, hn⟩ : ∃ n, n = ys.length := ⟨_, rfl⟩
  obtain ⟨P, hP⟩ : ∃ P, P = putP rm xs ys := ⟨_, rfl⟩
  rw [← hP, ← hn]
  rw [← hn] at hlen
  obtain ⟨nP, eP, zs⟩ := P
  have HP := Lib.hid hP
  have Hn := Lib.hid hn
  have hln : lys.length = n := by rw [lane_len hE, hn]
  obtain ⟨T0, hT⟩ : ∃ T0, T0 = q.length + ms.length := ⟨_, rfl⟩
  rw [← hT] at hlen ⊢
  have HT : Hid (q.length + ms.length ≤ T0 + 0) := Lib.hid (by omega)
  simp only []
  clear h hC hE hR hP hn hT hq9 hm9
  go_enter Try.func32, Try.ntmps32
  go_wp2_with (fail)
  go_loopw [11] (fun v11 wr => ∃ (k : Nat) (xk : List S35) (qk : List Pq) (mk : List Int) (ownr : Nat → Nat) (Ak : Option Addr) (ck : Nat) (Bk : Option Addr) (dk : Nat), k ≤ n ∧ v11 = .int .i64 (k : Nat) ∧ Hid ((nP, eP, zs) = ((putP rm xk (ys.drop k)).1 + k, (putP rm xk (ys.drop k)).2)) ∧ Hid (Rel xk (qk.map (·.1)) mk oR oM) ∧ Hid (BookAt ownr wr b qk mk oR oM Ak ck Bk dk) ∧ Hid (Upd (2 ≤ ·) own w ownr wr) ∧ Hid (qk.length + mk.length ≤ T0 + k)) (fun v11 _ => n - (intOf v11).toNat)
  case atStart => exact ⟨0, xs, q, ms, own, Ar, cr, Am, cm, Nat.zero_le _, rfl, Lib.hid (by rw [HP.out]; rfl), HR, HBK, Lib.hid (Upd.refl _ _ _), HT⟩
  case round =>
    obtain ⟨k, xk, qk, mk, ownr, Ak, ck, Bk, dk, hk, rfl, HPk, HRk, HBk, HU, HQ⟩ := hrel
    by_cases hlt : k < n
    · have hin := StC_pk_upd HC.out (S := (2 ≤ ·)) (by decide) HU.out
      obtain ⟨ad, y, B5, d5, B6, d6, rfl, hy, hsy, a0, a1, a2, a3, a4, a5, a6⟩ := at_pk hin.now k (by rw [hln]; exact hlt)
      have hky : k < ys.length := by rw [← Hn.out]; exact hlt
      have hys : ys.drop k = y :: ys.drop (k + 1) := by
        rw [List.drop_eq_getElem_cons hky]
        congr 1
        have : (lys.map (·.1))[k]'(by rw [List.length_map, hln]; exact hlt) = y := by rw [List.getElem_map, hy]
        rw [← this]
        congr 1
        exact HE.out.symm
      have hpk := HPk.out
      rw [hys] at hpk
      have HPk2 := Lib.hid hpk
      have HSY := Lib.hid hsy
      have hqk : qk.length ≤ 10000 := by have := HQ.out; omega
      have hmk : mk.length ≤ 10000 := by have := HQ.out; omega
      have Hqk := Lib.hid hqk
      have Hmk := Lib.hid hmk
      have hstop : ∀ s : Int, stops rm xk y = s → s ≠ 0 → nP = k ∧ eP = s ∧ zs = xk := by
        intro s h1 h2
        have h3 := HPk2.out
        rw [putP_stop _ _ _ _ (by rw [h1]; exact h2), h1] at h3
        simp only [Prod.mk.injEq] at h3
        exact ⟨by omega, h3.2.1, h3.2.2⟩
      have hgo : stops rm xk y = 0 → (nP, eP, zs) = ((putP rm (xk ++ [cop y]) (ys.drop (k + 1))).1 + (k + 1), (putP rm (xk ++ [cop y]) (ys.drop (k + 1))).2) := by
        intro h1
        have h3 := HPk2.out
        rw [putP_cons _ _ _ _ h1] at h3
        simp only [Prod.mk.injEq] at h3 ⊢
        exact ⟨by omega, h3.2⟩
      have HSTOP := Lib.hid hstop
      have HGO := Lib.hid hgo
      clear hin hy hsy hky hys hpk hqk hmk hstop hgo
      by_cases hneg : y.f0 < 0
      · have k1 : decide (y.f0 < 0) = true := decide_eq_true hneg
        obtain ⟨rfl, rfl, rfl⟩ := HSTOP.out 52 (by unfold stops; rw [if_pos hneg]) (by decide)
        clear HSTOP HGO HPk HPk2 HP
        go_wp2_with (fail)
        go_ret
        exact ⟨rfl, ownr, qk, mk, Ak, ck, Bk, dk, HBk, HU, HRk, by have := HQ.out; omega⟩
      · have k1 : decide (y.f0 < 0) = false := decide_eq_false hneg
        by_cases hz : y.f0 = 0
        · have k2 : (y.f0 == 0) = true := by simp [hz]
          have HIN := Lib.hid (in37_r ownr wr b qk mk oR oM Ak Bk ck dk HBk.out Hqk.out Hmk.out y B5 d5 B6 d6 HSY.out (by omega))
          have Hz := Lib.hid hz
          obtain ⟨hd, hhd⟩ : ∃ hd, hd = qk.length - oR := ⟨_, rfl⟩
          have hhe : recsX xk = (hd : Int) := by rw [HRk.out.held, List.length_map, hhd]
          have hhd9 : hd ≤ 10000 := by have := Hqk.out; omega
          have hor : oR ≤ qk.length := by have := HRk.out.hR; rw [List.length_map] at this; exact this
          have hheld := held33 ownr wr b qk mk oR oM Ak Bk ck dk HBk.out Hqk.out hor
          rw [← hhd] at hheld
          have HHELD := Lib.hid hheld
          have Hhe := Lib.hid hhe
          clear hneg hz hhd hhe hheld hor
          by_cases hr : 0 < rm
          · have k3 : decide (0 < rm) = true := decide_eq_true hr
            by_cases hf : rm ≤ (hd : Int)
            · have k4 : decide (rm ≤ (hd : Int)) = true := decide_eq_true hf
              obtain ⟨rfl, rfl, rfl⟩ := HSTOP.out 51 (by unfold stops fullX; rw [if_neg (by have := Hz.out; omega), if_pos ⟨Hz.out, by rw [Hhe.out, k3, k4]; rfl⟩]) (by decide)
              clear HSTOP HGO HPk HPk2 HIN HP
              go_wp2_with (first | (go_at_call 33; refine HHELD.out.mono ?_; rintro e w4 ⟨rfl, HB4⟩))
              go_ret
              exact ⟨rfl, ownr, qk, mk, Ak, ck, Bk, dk, Lib.hid (HBk.out.upd (S := fun _ => False) (by decide) (by decide) (by decide) (by decide) (Upd.of_below' HB4.out (fun _ _ => rfl))), Lib.hid (HU.out.then (Upd.of_below' HB4.out (fun _ _ => rfl))), HRk, by have := HQ.out; omega⟩
            · have k4 : decide (rm ≤ (hd : Int)) = false := decide_eq_false hf
              have HPn := Lib.hid (HGO.out (by unfold stops fullX; rw [if_neg (by have := Hz.out; omega), if_neg (fun hh => by rw [Hhe.out, k4, Bool.and_false] at hh; cases hh.2)]))
              have HIN2 : Hid (∀ W : World, PLift (Below wr.heap.size wr W) → _) := Lib.hid (fun W (hW : PLift (Below wr.heap.size wr W)) => in37_r ownr W b qk mk oR oM Ak Bk ck dk (HBk.out.upd (S := fun _ => False) (by decide) (by decide) (by decide) (by decide) (Upd.of_below' hW.down (fun _ _ => rfl))) Hqk.out Hmk.out y B5 d5 B6 d6 (HSY.out.upd (S := fun _ => False) (by decide) (Upd.of_below' hW.down (fun _ _ => rfl))) (by have := Hz.out; omega))
              clear HSTOP HGO HPk HPk2 HIN HP
              go_wp2_with (first
                | (go_at_call 33; refine HHELD.out.mono ?_; rintro e w4 ⟨rfl, HB4⟩
                   replace a0 := pw_cell_below HB4.out a0
                   replace a1 := pw_cell_below HB4.out a1
                   replace a2 := pw_cell_below HB4.out a2
                   replace a3 := pw_cell_below HB4.out a3
                   replace a4 := pw_cell_below HB4.out a4
                   replace a5 := pw_cell_below HB4.out a5
                   replace a6 := pw_cell_below HB4.out a6)
                | (go_at_call 37; refine (HIN2.out _ ⟨HB4.out⟩).mono ?_; rintro e w5 ⟨rfl, own5, A1, c1, HB5, HU5⟩))
              go_roundw
              case rel => exact ⟨k + 1, xk ++ [cop y], qk ++ [(y.f1, [.string y.f1.f0, .int .i64 y.f1.f1.f0, .int .i64 y.f1.f1.f1, .string y.f1.f1.f2, .slice B5 y.f1.f1.f3.length d5, .slice B6 y.f1.f2.length d6])], mk, own5, A1, c1, Bk, dk, by omega, by go_num, HPn, Lib.hid (by rw [List.map_append]; exact HRk.out.addR y Hz.out), HB5, Lib.hid ((HU.out.then (Upd.of_below' HB4.out (fun _ _ => rfl))).then HU5.out), Lib.hid (by have := HQ.out; rw [List.length_append, List.length_singleton]; omega)⟩
              case measure => simp [intOf]; omega
          · have k3 : decide (0 < rm) = false := decide_eq_false hr
            have HPn := Lib.hid (HGO.out (by unfold stops fullX; rw [if_neg (by have := Hz.out; omega), if_neg (fun hh => by rw [k3, Bool.false_and] at hh; cases hh.2)]))
            clear HSTOP HGO HPk HPk2 HHELD HP
            go_wp2_with (first | (go_at_call 37; refine HIN.out.mono ?_; rintro e w5 ⟨rfl, own5, A1, c1, HB5, HU5⟩))
            go_roundw
            case rel => exact ⟨k + 1, xk ++ [cop y], qk ++ [(y.f1, [.string y.f1.f0, .int .i64 y.f1.f1.f0, .int .i64 y.f1.f1.f1, .string y.f1.f1.f2, .slice B5 y.f1.f1.f3.length d5, .slice B6 y.f1.f2.length d6])], mk, own5, A1, c1, Bk, dk, by omega, by go_num, HPn, Lib.hid (by rw [List.map_append]; exact HRk.out.addR y Hz.out), HB5, Lib.hid (HU.out.then HU5.out), Lib.hid (by have := HQ.out; rw [List.length_append, List.length_singleton]; omega)⟩
            case measure => simp [intOf]; omega
        · have k2 : (y.f0 == 0) = false := by simp [hz]
          have hpos : 0 < y.f0 := by omega
          have HIN := Lib.hid (in37_m ownr wr b qk mk oR oM Ak Bk ck dk HBk.out Hqk.out Hmk.out y B5 d5 B6 d6 HSY.out hpos)
          have HPn := Lib.hid (HGO.out (by unfold stops; rw [if_neg hneg, if_neg (fun hh => hz hh.1)]))
          have Hpos := Lib.hid hpos
          clear HSTOP HGO HPk HPk2 hneg hz hpos HP
          go_wp2_with (first | (go_at_call 37; refine HIN.out.mono ?_; rintro e w5 ⟨rfl, own5, A1, c1, HB5, HU5⟩))
          go_roundw
          case rel => exact ⟨k + 1, xk ++ [cop y], qk, mk ++ [y.f0], own5, Ak, ck, A1, c1, by omega, by go_num, HPn, Lib.hid (HRk.out.addM y Hpos.out), HB5, Lib.hid (HU.out.then HU5.out), Lib.hid (by have := HQ.out; rw [List.length_append, List.length_singleton]; omega)⟩
          case measure => simp [intOf]; omega
    · obtain rfl : k = n := by omega
      have h3 := HPk.out
      rw [List.drop_of_length_le (by rw [Hn.out]; exact Nat.le_refl _)] at h3
      simp only [putP, Prod.mk.injEq, Nat.zero_add] at h3
      obtain ⟨rfl, rfl, rfl⟩ := h3
      clear HPk HP
      go_wp2_with (fail)
      go_ret
      exact ⟨rfl, ownr, qk, mk, Ak, ck, Bk, dk, HBk, HU, HRk, HQ.out⟩
end Go.Proofs.Ytcbfddhdaamimaa.PLaneFifo
