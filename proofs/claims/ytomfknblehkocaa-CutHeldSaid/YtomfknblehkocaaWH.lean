/- CutHeld, walked. -/
import Derived.Test.YtomfknblehkocaaVD
import Derived.Deep.DeepCutAuto
namespace Go.Proofs.Ytomfknblehkocaa.C
open Go.RowKit Go.Proofs.YtomfknblehkocaaW.PrintWords Go.Proofs.YtomfknblehkocaaW.PrintLast
set_option linter.unusedVariables false
set_option linter.unusedSimpArgs false

theorem tookE_no {b : Bk} {v : Vw} {mode back : Int} {n : Nat} (h : VR b v mode back n) {port : Int} (ht : there n port = false) : b.tookE port = 132 := by unfold Bk.tookE; rw [h.knows, if_pos ht]
theorem tookE_held {b : Bk} {v : Vw} {mode back : Int} {n : Nat} (h : VR b v mode back n) {port : Int} (ht : there n port = true) (hh : v.held port mode n = true) : b.tookE port = 134 := by unfold Bk.tookE; rw [h.knows, if_neg (by rw [ht]; decide), h.held, if_pos hh]
theorem tookE_ok {b : Bk} {v : Vw} {mode back : Int} {n : Nat} (h : VR b v mode back n) {port : Int} (ht : there n port = true) (hh : v.held port mode n = false) : b.tookE port = 0 := by unfold Bk.tookE; rw [h.knows, if_neg (by rw [ht]; decide), h.held, if_neg (by rw [hh]; decide)]
theorem markE_no {b : Bk} {v : Vw} {mode back : Int} {n : Nat} (h : VR b v mode back n) {port id : Int} (ht : there n port = false) : b.markE port id = 132 := by unfold Bk.markE; rw [h.knows, if_pos ht]
theorem markE_bad {b : Bk} {v : Vw} {mode back : Int} {n : Nat} (h : VR b v mode back n) {port id : Int} (ht : there n port = true) (hi : id < 1 ∨ 9999 < id) : b.markE port id = 133 := by unfold Bk.markE; rw [h.knows, if_neg (by rw [ht]; decide), if_pos hi]
theorem markE_held {b : Bk} {v : Vw} {mode back : Int} {n : Nat} (h : VR b v mode back n) {port id : Int} (ht : there n port = true) (h1 : ¬ id < 1) (h2 : ¬ 9999 < id) (hh : v.held port mode n = true) : b.markE port id = 134 := by unfold Bk.markE; rw [h.knows, if_neg (by rw [ht]; decide), if_neg (by omega), h.held, if_pos hh]
theorem markE_ok {b : Bk} {v : Vw} {mode back : Int} {n : Nat} (h : VR b v mode back n) {port id : Int} (ht : there n port = true) (h1 : ¬ id < 1) (h2 : ¬ 9999 < id) (hh : v.held port mode n = false) : b.markE port id = 0 := by unfold Bk.markE; rw [h.knows, if_neg (by rw [ht]; decide), if_neg (by omega), h.held, if_neg (by rw [hh]; decide)]
theorem there_lt {n : Nat} {port : Int} (h : there n port = true) (hn : n ≤ 4) : 0 ≤ port ∧ port < 4 := by
  unfold there at h
  rw [Bool.and_eq_true, decide_eq_true_eq, decide_eq_true_eq] at h
  omega
section
variable {v : Vw} {port mode : Int} {n : Nat} {he : Bool}
theorem held_no (ht : there n port = false) (h : v.held port mode n = he) : he = false := by rw [← h]; unfold Vw.held; rw [ht]; rfl
theorem held_mode (ht : (mode == 1) = false) (h : v.held port mode n = he) : he = false := by rw [← h]; unfold Vw.held; rw [ht, Bool.and_false]; rfl
theorem held_id (ht : decide (0 < v.id) = false) (h : v.held port mode n = he) : he = false := by rw [← h]; unfold Vw.held; rw [ht, Bool.and_false]; rfl
theorem held_cop (ht : v.copied = true) (h : v.held port mode n = he) : he = false := by rw [← h]; unfold Vw.held; rw [ht, Bool.not_true, Bool.and_false]; rfl
theorem held_shut (h0 : there n port = true) (h1 : (mode == 1) = true) (h2 : decide (0 < v.id) = true) (h3 : v.copied = false) (h : v.held port mode n = he) : he = v.shut port.toNat := by rw [← h]; unfold Vw.held; rw [h0, h1, h2, h3]; rfl
end
set_option maxRecDepth 100000 in
set_option maxHeartbeats 4000000 in
theorem held_walk (mode ports back : Int) (l : List S47) (A : Option Addr) (cc : Nat) (w : World) (hC : Kd.C k47 w A l.length l) (hc : l.length ≤ cc) (hl : ∀ y ∈ l, lenO y) :
    Calls Try.prog 9 #[.int .i64 mode, .int .i64 ports, .int .i64 back, .slice A l.length cc] w fun e w' => e = .returned (.bool true) ∧ Below w.heap.size w w' := by
  obtain ⟨m, hm⟩ : ∃ m, m = l.length := ⟨_, rfl⟩
  have Hn := Lib.hid hm
  have HC := Lib.hid hC
  have Hl := Lib.hid hl
  have hmax : m ≤ 9223372036854775807 := by rw [hm]; exact Kd.C_max hC
  have HLE := Lib.hid (legal13 mode ports back w)
  have HIN : Hid (∀ W : World, Below w.heap.size w W → Calls Try.prog 17 #[.slice A m cc] W fun e w' => InsideAns l e ∧ Hid (Below W.heap.size W w')) := fun W hW => by
    rw [hm]
    exact inside17 l A cc W (Kd.C_below hC hW) hl
  rw [← hm]
  clear hC hm hl
  by_cases hE : newE mode ports back = 0
  rotate_left
  · have HNE : Hid (Calls Try.prog 14 #[.int .i64 mode, .int .i64 ports, .int .i64 back] w fun e w' => e = .returned (.tuple #[.pointer none, .int .i64 (newE mode ports back)]) ∧ w = w') := by
      refine (new14 mode ports back w).mono ?_
      intro e w' h
      unfold NewAns at h
      rw [if_neg hE] at h
      exact h
    have hB := newE_bad hE
    rw [beq_false_of_ne hE] at HLE
    clear hE
    rcases hB with h | h
    all_goals (
      rw [h] at HNE
      clear h
      go_enter Try.func9, Try.ntmps9
      go_wp2_with (first
        | (go_at_call 13; refine HLE.out.mono ?_; rintro e w' ⟨rfl, rfl⟩)
        | (go_at_call 14; refine HNE.out.mono ?_; rintro e w' ⟨rfl, rfl⟩)
        | (go_at_call 15; refine (num15 _ _).mono ?_; rintro e w' ⟨rfl, rfl⟩))
      go_ret
      exact ⟨rfl, Below.refl _ _⟩)
  obtain ⟨hM, n, rfl, hn1, hn4, hb1, hbn, hb2⟩ := legal_nat hE
  have HM := Lib.hid hM
  have HLG := Lib.hid (And.intro hn1 (And.intro hn4 (And.intro hb1 (And.intro hbn hb2))))
  have HNE : Hid (Calls Try.prog 14 #[.int .i64 mode, .int .i64 n, .int .i64 back] w fun e w' => NewOk mode n back w e w') := by
    refine (new14 mode n back w).mono ?_
    intro e w' h
    unfold NewAns at h
    rw [if_pos hE, Int.toNat_natCast] at h
    exact h
  rw [show (newE mode n back == 0) = true by simp [hE]] at HLE
  clear hE hM hn1 hb1 hbn hb2
  go_enter Try.func9, Try.ntmps9
  go_wp2_with (first
    | (go_at_call 13; refine HLE.out.mono ?_; rintro e w' ⟨rfl, rfl⟩)
    | (go_at_call 14; refine HNE.out.mono ?_; intro e w1 ha
       obtain ⟨gb, ob, rfl, hg, hb1, hB⟩ := ha
       have H1 := Lib.hid hb1
       have HB1 := Lib.hid hB
       clear hb1 hB)
    | (go_at_call 15; refine (num15 _ _).mono ?_; rintro e w' ⟨rfl, rfl⟩)
    | (go_at_call 16; refine (known16 mode HM.out w1).mono ?_; rintro e w2 ⟨rfl, hb⟩
       have HK2 := Lib.hid hb
       have HB2 : Hid (Below w.heap.size w w2) := HB1.out.trans (hb.mono HB1.out.size)
       clear hb)
    | (go_at_call 17; refine (HIN.out w2 HB2.out).mono ?_; rintro e w3 ⟨⟨bi, rfl, hbi⟩, hb⟩
       have HK3 := Lib.hid hb.out
       have HB3 : Hid (Below w.heap.size w w3) := HB2.out.trans (hb.out.mono HB2.out.size)
       have HBI := Lib.hid hbi
       clear hb hbi
       cases bi))
  · go_ret
    exact ⟨rfl, HB3.out⟩
  have Hp : Hid (partsOs l ≤ 10000) := HBI.out (by first | rfl | trivial)
  have H3 : Hid (HV w (w3.alloc (.cells #[.int .i64 0, .bool false, .int .i64 0, .slice none 0 0, .slice none 0 0, .bool false, .bool false, .bool false, .bool false, .slice none 0 0, .slice none 0 0, .slice none 0 0, .slice none 0 0, .bool false] 39)) ob (fun k => if k = w3.heap.size then 1 else 0) gb w3.heap.size (Bk.new mode n back) (Vw.fresh 0)) := HV.start ((H1.out.below HK2.out).below HK3.out) HB3.out
  have HVR : Hid (VR (Bk.new mode n back) (Vw.fresh 0) mode back n) := VR.new HLG.out.2.1 HLG.out.1 HLG.out.2.2.1 HLG.out.2.2.2.2
  clear HBI H1 HK2 HK3 HB1 HB2 HB3 HNE HIN HLE
  go_loopw [14] (fun v14 wr => ∃ (k : Nat) (b : Bk) (v u : Vw) (ob ov : Nat → Nat), k ≤ m ∧ v14 = .int .i64 k ∧ Hid (HV w wr ob ov gb w3.heap.size b v) ∧ Hid (VR b u mode back n) ∧ Hid (Lk v u) ∧ Hid (Fit b mode back n (partsOs (l.take k))) ∧ Hid (VF v (partsOs (l.take k)))) (fun v14 _ => m - (intOf v14).toNat)
  case atStart => exact ⟨0, _, _, _, ob, _, Nat.zero_le _, rfl, H3, HVR, Lk.refl _, Fit.new _ _ _, VF.fresh _ _⟩
  case round =>
    clear H3 HVR
    generalize w3.heap.size = gv at *
    obtain ⟨k, b, v, u, ob, ov, hk, rfl, HH, HVR, HLK, HF, HVF⟩ := hrel
    have HB : Hid (Below w.heap.size w wr) := HH.out.bl
    by_cases hlt : k < m
    rotate_left
    · go_wp2
      go_ret
      exact ⟨rfl, HB.out⟩
    by_cases h6 : (k : Int) < 600
    rotate_left
    · have h6' : decide ((k : Int) < 600) = false := by simpa using h6
      go_wp2
      go_ret
      exact ⟨rfl, HB.out⟩
    have h6' : decide ((k : Int) < 600) = true := by simpa using h6
    obtain ⟨ad, A8, c8, A9, c9, A10, c10, A11, c11, A13, c13, rfl, e0, e1, e2, e3, e4, e5, e6, e7, e8, e9, e10, e11, e12, e13, hl8, hC8, hl9, hC9, hl10, hC10, hl11, hC11, hl13, hC13⟩ := at_T47 HC.out (k : Int) (by omega) (by rw [← Hn.out]; omega)
    have hst : partsOs (l.take (k + 1)) = partsOs (l.take k) + partsO (rd_T47 l (k : Int)) := partsOs_step l k _ (by rw [← Hn.out]; exact hlt)
    generalize rd_T47 l (k : Int) = o at *
    rw [Int.toNat_natCast] at e0 e1 e2 e3 e4 e5 e6 e7 e8 e9 e10 e11 e12 e13
    replace e0 := (HB.out.cell (World.block_lt_of_cell? w _ e0)).trans e0
    replace e1 := (HB.out.cell (World.block_lt_of_cell? w _ e1)).trans e1
    replace e2 := (HB.out.cell (World.block_lt_of_cell? w _ e2)).trans e2
    replace e3 := (HB.out.cell (World.block_lt_of_cell? w _ e3)).trans e3
    replace e4 := (HB.out.cell (World.block_lt_of_cell? w _ e4)).trans e4
    replace e5 := (HB.out.cell (World.block_lt_of_cell? w _ e5)).trans e5
    replace e6 := (HB.out.cell (World.block_lt_of_cell? w _ e6)).trans e6
    replace e7 := (HB.out.cell (World.block_lt_of_cell? w _ e7)).trans e7
    replace e8 := (HB.out.cell (World.block_lt_of_cell? w _ e8)).trans e8
    replace e9 := (HB.out.cell (World.block_lt_of_cell? w _ e9)).trans e9
    replace e10 := (HB.out.cell (World.block_lt_of_cell? w _ e10)).trans e10
    replace e11 := (HB.out.cell (World.block_lt_of_cell? w _ e11)).trans e11
    replace e12 := (HB.out.cell (World.block_lt_of_cell? w _ e12)).trans e12
    replace e13 := (HB.out.cell (World.block_lt_of_cell? w _ e13)).trans e13
    have hpo : partsO o ≤ 10000 := by
      have h1 := partsOs_take_le l (k + 1)
      have h2 := Hp.out
      omega
    have hpt : partsOs (l.take k) ≤ 10000 := Nat.le_trans (partsOs_take_le l k) Hp.out
    have hu : partsR o.f4 ≤ 100000 ∧ partsC o.f7.f1 ≤ 100000 ∧ partsRs o.f5 ≤ 100000 ∧ partsRs o.f6 ≤ 100000 := by unfold partsO at hpo; omega
    have HU := Lib.hid hu
    have HST := Lib.hid hst
    have HPO := Lib.hid hpo
    have HPT := Lib.hid hpt
    have HL8 := Lib.hid hl8
    have HL9 := Lib.hid hl9
    have HL10 := Lib.hid hl10
    have HL11 := Lib.hid hl11
    have HL13 := Lib.hid hl13
    have HC8 := Lib.hid hC8
    have HC9 := Lib.hid hC9
    have HC10 := Lib.hid hC10
    have HC11 := Lib.hid hC11
    have HC13 := Lib.hid hC13
    clear hC8 hC9 hC10 hC11 hC13 hst hpo hpt hu hl8 hl9 hl10 hl11 hl13
    have HX : Hid (HV w (wr.alloc (.cells #[.int .i64 o.f0, .int .i64 o.f1, .int .i64 o.f2, .int .i64 o.f3, .string o.f4.f0, .int .i64 o.f4.f1.f0, .int .i64 o.f4.f1.f1, .string o.f4.f1.f2, .slice A8 o.f4.f1.f3.length c8, .slice A9 o.f4.f2.length c9, .slice A10 o.f5.length c10, .slice A11 o.f6.length c11, .int .i64 o.f7.f0, .slice A13 o.f7.f1.length c13] 47)) ob ov gb gv b v) := HH.out.below ((Below.refl _ _).alloc (Nat.le_refl _) _)
    have HLN : Hid (∀ i, (b.logs.getD i []).length ≤ 10000) := fun i => Nat.le_trans (HF.out.l i) HPT.out
    have HFB : Hid (ob wr.heap.size = 0 ∧ ov wr.heap.size = 0) := ⟨HH.out.freeB (Nat.le_refl _), HH.out.freeV (Nat.le_refl _)⟩
    have hgv : gv < wr.heap.size := by have := HH.out.vw; obtain ⟨_, _, _, hv⟩ := this; exact hv.glt
    obtain ⟨th, hth⟩ : ∃ th, there n o.f2 = th := ⟨_, rfl⟩
    have HTH := Lib.hid hth
    obtain ⟨he, hhe⟩ : ∃ he, v.held o.f2 mode n = he := ⟨_, rfl⟩
    have HHE := Lib.hid hhe
    clear hth hhe
    go_upto_region 14 with (fail)
    clear e0 e1 e2 e3 e4 e5 e6 e7 e8 e9 e10 e11 e12 e13
    go_cut [16] (fun s16 wx => s16 = .bool th ∧ wx = (wr.alloc (.cells #[.int .i64 o.f0, .int .i64 o.f1, .int .i64 o.f2, .int .i64 o.f3, .string o.f4.f0, .int .i64 o.f4.f1.f0, .int .i64 o.f4.f1.f1, .string o.f4.f1.f2, .slice A8 o.f4.f1.f3.length c8, .slice A9 o.f4.f2.length c9, .slice A10 o.f5.length c10, .slice A11 o.f6.length c11, .int .i64 o.f7.f0, .slice A13 o.f7.f1.length c13] 47)))
    case first =>
      by_cases i1 : 0 ≤ o.f2
      · have j1 : decide (0 ≤ o.f2) = true := by simpa using i1
        go_wp2_with (fail)
        go_meet
        exact ⟨by rw [← HTH.out]; unfold there; rw [j1]; rfl, rfl⟩
      · have j1 : decide (0 ≤ o.f2) = false := by simpa using i1
        go_wp2_with (fail)
        go_meet
        exact ⟨by rw [← HTH.out]; unfold there; rw [j1]; rfl, rfl⟩
    case rest =>
      obtain ⟨rfl, rfl⟩ := hcut
      have HTB : Hid (th = true → 0 ≤ o.f2 ∧ o.f2 < 4) := fun e => there_lt (HTH.out.trans e) hn4
      obtain ⟨va, vp, lv, hvw⟩ := HX.out.vw
      have HVW := Lib.hid hvw
      have c0 : (wr.alloc (.cells #[.int .i64 o.f0, .int .i64 o.f1, .int .i64 o.f2, .int .i64 o.f3, .string o.f4.f0, .int .i64 o.f4.f1.f0, .int .i64 o.f4.f1.f1, .string o.f4.f1.f2, .slice A8 o.f4.f1.f3.length c8, .slice A9 o.f4.f2.length c9, .slice A10 o.f5.length c10, .slice A11 o.f6.length c11, .int .i64 o.f7.f0, .slice A13 o.f7.f1.length c13] 47)).cell? ⟨gv, 0, none⟩ = some (.int .i64 v.id) := blk_at hvw.hb 0 rfl
      have c1 : (wr.alloc (.cells #[.int .i64 o.f0, .int .i64 o.f1, .int .i64 o.f2, .int .i64 o.f3, .string o.f4.f0, .int .i64 o.f4.f1.f0, .int .i64 o.f4.f1.f1, .string o.f4.f1.f2, .slice A8 o.f4.f1.f3.length c8, .slice A9 o.f4.f2.length c9, .slice A10 o.f5.length c10, .slice A11 o.f6.length c11, .int .i64 o.f7.f0, .slice A13 o.f7.f1.length c13] 47)).cell? ⟨gv, 1, none⟩ = some (.bool v.copied) := blk_at hvw.hb 1 rfl
      clear hvw
      go_upto_region 15 with (fail)
      go_cut [17] (fun s17 wx => s17 = .bool he ∧ Hid (Below (wr.alloc (.cells #[.int .i64 o.f0, .int .i64 o.f1, .int .i64 o.f2, .int .i64 o.f3, .string o.f4.f0, .int .i64 o.f4.f1.f0, .int .i64 o.f4.f1.f1, .string o.f4.f1.f2, .slice A8 o.f4.f1.f3.length c8, .slice A9 o.f4.f2.length c9, .slice A10 o.f5.length c10, .slice A11 o.f6.length c11, .int .i64 o.f7.f0, .slice A13 o.f7.f1.length c13] 47)).heap.size (wr.alloc (.cells #[.int .i64 o.f0, .int .i64 o.f1, .int .i64 o.f2, .int .i64 o.f3, .string o.f4.f0, .int .i64 o.f4.f1.f0, .int .i64 o.f4.f1.f1, .string o.f4.f1.f2, .slice A8 o.f4.f1.f3.length c8, .slice A9 o.f4.f2.length c9, .slice A10 o.f5.length c10, .slice A11 o.f6.length c11, .int .i64 o.f7.f0, .slice A13 o.f7.f1.length c13] 47)) wx))
      case first =>
        cases th
        · as_aux_lemma =>
            go_quiet (fail)
            go_wp2_with (fail)
            go_meet
            exact ⟨by rw [held_no HTH.out HHE.out], Lib.hid (pw_below_drewN (Below.refl _ _) _)⟩
        rcases m1 : (mode == 1) with _ | _
        · have HM1 := Lib.hid m1
          as_aux_lemma =>
            go_quiet (fail)
            go_wp2_with (fail)
            go_meet
            exact ⟨by rw [held_mode HM1.out HHE.out], Lib.hid (pw_below_drewN (Below.refl _ _) _)⟩
        rcases m2 : decide (0 < v.id) with _ | _
        · have HM2 := Lib.hid m2
          as_aux_lemma =>
            go_quiet (fail)
            go_wp2_with (fail)
            go_meet
            exact ⟨by rw [held_id HM2.out HHE.out], Lib.hid (pw_below_drewN (Below.refl _ _) _)⟩
        rcases m3 : v.copied with _ | _
        rotate_left
        · have HM3 := Lib.hid m3
          rw [m3] at c1
          clear m3
          as_aux_lemma =>
            go_quiet (fail)
            go_wp2_with (fail)
            go_meet
            exact ⟨by rw [held_cop HM3.out HHE.out], Lib.hid (pw_below_drewN (Below.refl _ _) _)⟩
        have HM1 := Lib.hid m1
        have HM2 := Lib.hid m2
        have HM3 := Lib.hid m3
        rw [m3] at c1
        clear m3
        have i1 := (HTB.out rfl).1
        have i2 := (HTB.out rfl).2
        have cs := HVW.out.shutc o.f2.toNat (by omega)
        as_aux_lemma =>
          go_quiet (fail)
          go_wp2_with (fail)
          go_meet
          exact ⟨by rw [held_shut HTH.out HM1.out HM2.out HM3.out HHE.out], Lib.hid (pw_below_drewN (Below.refl _ _) _)⟩
      case rest =>
        obtain ⟨rfl, HBX⟩ := hcut
        clear c0 c1
        have HX1 : Hid (HV w wc ob ov gb gv b v) := HX.out.below HBX.out
        have HXB : Hid (wc.heap[wr.heap.size]? = some (.cells #[.int .i64 o.f0, .int .i64 o.f1, .int .i64 o.f2, .int .i64 o.f3, .string o.f4.f0, .int .i64 o.f4.f1.f0, .int .i64 o.f4.f1.f1, .string o.f4.f1.f2, .slice A8 o.f4.f1.f3.length c8, .slice A9 o.f4.f2.length c9, .slice A10 o.f5.length c10, .slice A11 o.f6.length c11, .int .i64 o.f7.f0, .slice A13 o.f7.f1.length c13] 47 (0, 0))) := (HBX.out.block wr.heap.size (by rw [World.size_alloc]; omega)).trans (blk_new wr _)
        have x0 : wc.cell? ⟨wr.heap.size, 0, none⟩ = some (.int .i64 o.f0) := blk_at HXB.out 0 rfl
        have x1 : wc.cell? ⟨wr.heap.size, 1, none⟩ = some (.int .i64 o.f1) := blk_at HXB.out 1 rfl
        have x2 : wc.cell? ⟨wr.heap.size, 2, none⟩ = some (.int .i64 o.f2) := blk_at HXB.out 2 rfl
        have x3 : wc.cell? ⟨wr.heap.size, 3, none⟩ = some (.int .i64 o.f3) := blk_at HXB.out 3 rfl
        have x4 : wc.cell? ⟨wr.heap.size, 4, none⟩ = some (.string o.f4.f0) := blk_at HXB.out 4 rfl
        have x5 : wc.cell? ⟨wr.heap.size, 5, none⟩ = some (.int .i64 o.f4.f1.f0) := blk_at HXB.out 5 rfl
        have x6 : wc.cell? ⟨wr.heap.size, 6, none⟩ = some (.int .i64 o.f4.f1.f1) := blk_at HXB.out 6 rfl
        have x7 : wc.cell? ⟨wr.heap.size, 7, none⟩ = some (.string o.f4.f1.f2) := blk_at HXB.out 7 rfl
        have x8 : wc.cell? ⟨wr.heap.size, 8, none⟩ = some (.slice A8 o.f4.f1.f3.length c8) := blk_at HXB.out 8 rfl
        have x9 : wc.cell? ⟨wr.heap.size, 9, none⟩ = some (.slice A9 o.f4.f2.length c9) := blk_at HXB.out 9 rfl
        have x10 : wc.cell? ⟨wr.heap.size, 10, none⟩ = some (.slice A10 o.f5.length c10) := blk_at HXB.out 10 rfl
        have x11 : wc.cell? ⟨wr.heap.size, 11, none⟩ = some (.slice A11 o.f6.length c11) := blk_at HXB.out 11 rfl
        have x12 : wc.cell? ⟨wr.heap.size, 12, none⟩ = some (.int .i64 o.f7.f0) := blk_at HXB.out 12 rfl
        have x13 : wc.cell? ⟨wr.heap.size, 13, none⟩ = some (.slice A13 o.f7.f1.length c13) := blk_at HXB.out 13 rfl
        cases th
        · have h0 := held_no HTH.out HHE.out
          subst h0
          have HBH : Hid (b.held o.f2 = false) := by rw [HVR.out.held, ← HLK.out.held]; exact HHE.out
          by_cases k1 : o.f0 = 1
          · have k1' : (o.f0 == 1) = true := by simp [k1]
            clear k1
            as_aux_lemma =>
              have HTE : Hid (b.tookE o.f2 = 132) := tookE_no HVR.out HTH.out
              go_wp2_with (first
                    | (go_at_call 29; obtain ⟨gp, gl, vc, vd, lw, hbk⟩ := HX1.out.bk; refine (held29 hbk o.f2).mono ?_
                       rintro e w5 ⟨he, rfl⟩
                       rw [HBH.out] at he
                       subst he
                       clear hbk)
                    | (go_at_call 15; refine (num15 _ _).mono ?_; rintro e w' ⟨rfl, rfl⟩)
                    | (go_at_call 18; obtain ⟨gp, gl, vc, vd, lw, hbk⟩ := HX1.out.bk; refine (took18 hbk HX1.out.bl.size o.f2 o.f4 A8 c8 (HX1.out.awayB HC8.out) HL8.out A9 c9 (HX1.out.awayB HC9.out) HL9.out HU.out.1 (fun i => by have := HLN.out i; omega)).mono ?_
                       rintro e w2 ⟨he, hp2⟩
                       rw [HTE.out] at he
                       subst he
                       obtain ⟨ob2, h2, u2⟩ := HX1.out.book hp2
                       have H2 := Lib.hid h2
                       clear h2 u2 hp2 hbk))
              go_roundw
              case rel =>
                refine ⟨k + 1, _, v, _, ob2, ov, by omega, by go_num, H2.out, HVR.out.took o.f2 o.f4, ?_, (HF.out.took _ _).mono ?_, HVF.out.mono ?_⟩
                · split
                  · exact HLK.out.logged _ _
                  · exact HLK.out
                · have := HST.out
                  have : 1 ≤ partsO o := by unfold partsO partsR; omega
                  omega
                · have := HST.out
                  omega
              case measure => simp [intOf]; omega
          have k1' : (o.f0 == 1) = false := beq_false_of_ne k1
          clear k1
          by_cases k2 : o.f0 = 2
          · have k2' : (o.f0 == 2) = true := by simp [k2]
            clear k2
            as_aux_lemma =>
              have HTE : Hid (b.markE o.f2 o.f3 = 132) := markE_no HVR.out HTH.out
              have HMB : Hid (b.mark o.f2 o.f3 o.f5 o.f7 o.f6 = b ∧ b.markC o.f2 o.f3 o.f5 o.f7 o.f6 = false) := mark_bad (by rw [HTE.out]; decide) _ _ _
              have HCC : Hid (b.markC o.f2 o.f3 o.f5 o.f7 o.f6 = false) := HMB.out.2
              go_wp2_with (first
                      | (go_at_call 29; obtain ⟨gp, gl, vc, vd, lw, hbk⟩ := HX1.out.bk; refine (held29 hbk o.f2).mono ?_
                         rintro e w5 ⟨he, rfl⟩
                         rw [HBH.out] at he
                         subst he
                         clear hbk)
                      | (go_at_call 15; refine (num15 _ _).mono ?_; rintro e w' ⟨rfl, rfl⟩)
                      | (go_at_call 20; obtain ⟨gp, gl, vc, vd, lw, hbk⟩ := HX1.out.bk; refine (mark20 hbk HX1.out.bl.size o.f2 o.f3 o.f5 A10 c10 (HX1.out.awayB HC10.out) HL10.out HU.out.2.2.1 o.f7 A13 c13 (HX1.out.awayB HC13.out) HL13.out HU.out.2.1 o.f6 A11 c11 (HX1.out.awayB HC11.out) HL11.out HU.out.2.2.2 (fun i => by have := HLN.out i; have := partsRs_len o.f5; have := HU.out.2.2.1; omega) (by rw [HF.out.m]; exact HM.out)).mono ?_
                         rintro e w2 ⟨he, hp2⟩
                         rw [HTE.out, HCC.out] at he
                         subst he
                         obtain ⟨ob2, h2, u2⟩ := HX1.out.book hp2
                         have H2 := Lib.hid h2
                         have HX2 : Hid (w2.heap[wr.heap.size]? = some (.cells #[.int .i64 o.f0, .int .i64 o.f1, .int .i64 o.f2, .int .i64 o.f3, .string o.f4.f0, .int .i64 o.f4.f1.f0, .int .i64 o.f4.f1.f1, .string o.f4.f1.f2, .slice A8 o.f4.f1.f3.length c8, .slice A9 o.f4.f2.length c9, .slice A10 o.f5.length c10, .slice A11 o.f6.length c11, .int .i64 o.f7.f0, .slice A13 o.f7.f1.length c13] 47 (0, 0))) := (u2.block wr.heap.size (blk_lt HXB.out) HFB.out.1).trans HXB.out
                         clear h2 u2 hp2 hbk))
              go_roundw
              case rel =>
                refine ⟨k + 1, b, v, u, ob2, ov, by omega, by go_num, HMB.out.1 ▸ H2.out, HVR.out, HLK.out, HF.out.mono ?_, HVF.out.mono ?_⟩
                · have := HST.out
                  omega
                · have := HST.out
                  omega
              case measure => simp [intOf]; omega
          have k2' : (o.f0 == 2) = false := beq_false_of_ne k2
          clear k2
          as_aux_lemma =>
            go_wp2_with (first
                    | (go_at_call 29; obtain ⟨gp, gl, vc, vd, lw, hbk⟩ := HX1.out.bk; refine (held29 hbk o.f2).mono ?_
                       rintro e w5 ⟨he, rfl⟩
                       rw [HBH.out] at he
                       subst he
                       clear hbk)
                    | (go_at_call 15; refine (num15 _ _).mono ?_; rintro e w' ⟨rfl, rfl⟩))
            go_roundw
            case rel =>
              refine ⟨k + 1, b, v, u, ob, ov, by omega, by go_num, HX1.out, HVR.out, HLK.out, HF.out.mono ?_, HVF.out.mono ?_⟩
              all_goals (have := HST.out; omega)
            case measure => simp [intOf]; omega
        cases he
        rotate_left
        · skip
          have HBH : Hid (b.held o.f2 = true) := by rw [HVR.out.held, ← HLK.out.held]; exact HHE.out
          by_cases k1 : o.f0 = 1
          · have k1' : (o.f0 == 1) = true := by simp [k1]
            clear k1
            as_aux_lemma =>
              have HTE : Hid (b.tookE o.f2 = 134) := tookE_held HVR.out HTH.out (by rw [← HLK.out.held]; exact HHE.out)
              go_wp2_with (first
                    | (go_at_call 29; obtain ⟨gp, gl, vc, vd, lw, hbk⟩ := HX1.out.bk; refine (held29 hbk o.f2).mono ?_
                       rintro e w5 ⟨he, rfl⟩
                       rw [HBH.out] at he
                       subst he
                       clear hbk)
                    | (go_at_call 15; refine (num15 _ _).mono ?_; rintro e w' ⟨rfl, rfl⟩)
                    | (go_at_call 18; obtain ⟨gp, gl, vc, vd, lw, hbk⟩ := HX1.out.bk; refine (took18 hbk HX1.out.bl.size o.f2 o.f4 A8 c8 (HX1.out.awayB HC8.out) HL8.out A9 c9 (HX1.out.awayB HC9.out) HL9.out HU.out.1 (fun i => by have := HLN.out i; omega)).mono ?_
                       rintro e w2 ⟨he, hp2⟩
                       rw [HTE.out] at he
                       subst he
                       obtain ⟨ob2, h2, u2⟩ := HX1.out.book hp2
                       have H2 := Lib.hid h2
                       clear h2 u2 hp2 hbk))
              go_roundw
              case rel =>
                refine ⟨k + 1, _, v, _, ob2, ov, by omega, by go_num, H2.out, HVR.out.took o.f2 o.f4, ?_, (HF.out.took _ _).mono ?_, HVF.out.mono ?_⟩
                · split
                  · exact HLK.out.logged _ _
                  · exact HLK.out
                · have := HST.out
                  have : 1 ≤ partsO o := by unfold partsO partsR; omega
                  omega
                · have := HST.out
                  omega
              case measure => simp [intOf]; omega
          have k1' : (o.f0 == 1) = false := beq_false_of_ne k1
          clear k1
          by_cases k2 : o.f0 = 2
          · have k2' : (o.f0 == 2) = true := by simp [k2]
            clear k2
            by_cases b1 : o.f3 < 1
            · as_aux_lemma =>
                have q1 : decide (o.f3 < 1) = true := by simpa using b1
                have HTE : Hid (b.markE o.f2 o.f3 = 133) := markE_bad HVR.out HTH.out (.inl b1)
                have HMB : Hid (b.mark o.f2 o.f3 o.f5 o.f7 o.f6 = b ∧ b.markC o.f2 o.f3 o.f5 o.f7 o.f6 = false) := mark_bad (by rw [HTE.out]; decide) _ _ _
                have HCC : Hid (b.markC o.f2 o.f3 o.f5 o.f7 o.f6 = false) := HMB.out.2
                go_wp2_with (first
                        | (go_at_call 29; obtain ⟨gp, gl, vc, vd, lw, hbk⟩ := HX1.out.bk; refine (held29 hbk o.f2).mono ?_
                           rintro e w5 ⟨he, rfl⟩
                           rw [HBH.out] at he
                           subst he
                           clear hbk)
                        | (go_at_call 15; refine (num15 _ _).mono ?_; rintro e w' ⟨rfl, rfl⟩)
                        | (go_at_call 20; obtain ⟨gp, gl, vc, vd, lw, hbk⟩ := HX1.out.bk; refine (mark20 hbk HX1.out.bl.size o.f2 o.f3 o.f5 A10 c10 (HX1.out.awayB HC10.out) HL10.out HU.out.2.2.1 o.f7 A13 c13 (HX1.out.awayB HC13.out) HL13.out HU.out.2.1 o.f6 A11 c11 (HX1.out.awayB HC11.out) HL11.out HU.out.2.2.2 (fun i => by have := HLN.out i; have := partsRs_len o.f5; have := HU.out.2.2.1; omega) (by rw [HF.out.m]; exact HM.out)).mono ?_
                           rintro e w2 ⟨he, hp2⟩
                           rw [HTE.out, HCC.out] at he
                           subst he
                           obtain ⟨ob2, h2, u2⟩ := HX1.out.book hp2
                           have H2 := Lib.hid h2
                           have HX2 : Hid (w2.heap[wr.heap.size]? = some (.cells #[.int .i64 o.f0, .int .i64 o.f1, .int .i64 o.f2, .int .i64 o.f3, .string o.f4.f0, .int .i64 o.f4.f1.f0, .int .i64 o.f4.f1.f1, .string o.f4.f1.f2, .slice A8 o.f4.f1.f3.length c8, .slice A9 o.f4.f2.length c9, .slice A10 o.f5.length c10, .slice A11 o.f6.length c11, .int .i64 o.f7.f0, .slice A13 o.f7.f1.length c13] 47 (0, 0))) := (u2.block wr.heap.size (blk_lt HXB.out) HFB.out.1).trans HXB.out
                           have y0 : w2.cell? ⟨wr.heap.size, 0, none⟩ = some (.int .i64 o.f0) := blk_at HX2.out 0 rfl
                           have y1 : w2.cell? ⟨wr.heap.size, 1, none⟩ = some (.int .i64 o.f1) := blk_at HX2.out 1 rfl
                           have y2 : w2.cell? ⟨wr.heap.size, 2, none⟩ = some (.int .i64 o.f2) := blk_at HX2.out 2 rfl
                           have y3 : w2.cell? ⟨wr.heap.size, 3, none⟩ = some (.int .i64 o.f3) := blk_at HX2.out 3 rfl
                           have y4 : w2.cell? ⟨wr.heap.size, 4, none⟩ = some (.string o.f4.f0) := blk_at HX2.out 4 rfl
                           have y5 : w2.cell? ⟨wr.heap.size, 5, none⟩ = some (.int .i64 o.f4.f1.f0) := blk_at HX2.out 5 rfl
                           have y6 : w2.cell? ⟨wr.heap.size, 6, none⟩ = some (.int .i64 o.f4.f1.f1) := blk_at HX2.out 6 rfl
                           have y7 : w2.cell? ⟨wr.heap.size, 7, none⟩ = some (.string o.f4.f1.f2) := blk_at HX2.out 7 rfl
                           have y8 : w2.cell? ⟨wr.heap.size, 8, none⟩ = some (.slice A8 o.f4.f1.f3.length c8) := blk_at HX2.out 8 rfl
                           have y9 : w2.cell? ⟨wr.heap.size, 9, none⟩ = some (.slice A9 o.f4.f2.length c9) := blk_at HX2.out 9 rfl
                           have y10 : w2.cell? ⟨wr.heap.size, 10, none⟩ = some (.slice A10 o.f5.length c10) := blk_at HX2.out 10 rfl
                           have y11 : w2.cell? ⟨wr.heap.size, 11, none⟩ = some (.slice A11 o.f6.length c11) := blk_at HX2.out 11 rfl
                           have y12 : w2.cell? ⟨wr.heap.size, 12, none⟩ = some (.int .i64 o.f7.f0) := blk_at HX2.out 12 rfl
                           have y13 : w2.cell? ⟨wr.heap.size, 13, none⟩ = some (.slice A13 o.f7.f1.length c13) := blk_at HX2.out 13 rfl
                           clear h2 u2 hp2 hbk))
                go_roundw
                case rel =>
                  refine ⟨k + 1, b, v, u, ob2, ov, by omega, by go_num, HMB.out.1 ▸ H2.out, HVR.out, HLK.out, HF.out.mono ?_, HVF.out.mono ?_⟩
                  · have := HST.out
                    omega
                  · have := HST.out
                    omega
                case measure => simp [intOf]; omega
            by_cases b2 : 9999 < o.f3
            · as_aux_lemma =>
                have q1 : decide (o.f3 < 1) = false := by simpa using b1
                have q2 : decide (9999 < o.f3) = true := by simpa using b2
                have HTE : Hid (b.markE o.f2 o.f3 = 133) := markE_bad HVR.out HTH.out (.inr b2)
                have HMB : Hid (b.mark o.f2 o.f3 o.f5 o.f7 o.f6 = b ∧ b.markC o.f2 o.f3 o.f5 o.f7 o.f6 = false) := mark_bad (by rw [HTE.out]; decide) _ _ _
                have HCC : Hid (b.markC o.f2 o.f3 o.f5 o.f7 o.f6 = false) := HMB.out.2
                go_wp2_with (first
                        | (go_at_call 29; obtain ⟨gp, gl, vc, vd, lw, hbk⟩ := HX1.out.bk; refine (held29 hbk o.f2).mono ?_
                           rintro e w5 ⟨he, rfl⟩
                           rw [HBH.out] at he
                           subst he
                           clear hbk)
                        | (go_at_call 15; refine (num15 _ _).mono ?_; rintro e w' ⟨rfl, rfl⟩)
                        | (go_at_call 20; obtain ⟨gp, gl, vc, vd, lw, hbk⟩ := HX1.out.bk; refine (mark20 hbk HX1.out.bl.size o.f2 o.f3 o.f5 A10 c10 (HX1.out.awayB HC10.out) HL10.out HU.out.2.2.1 o.f7 A13 c13 (HX1.out.awayB HC13.out) HL13.out HU.out.2.1 o.f6 A11 c11 (HX1.out.awayB HC11.out) HL11.out HU.out.2.2.2 (fun i => by have := HLN.out i; have := partsRs_len o.f5; have := HU.out.2.2.1; omega) (by rw [HF.out.m]; exact HM.out)).mono ?_
                           rintro e w2 ⟨he, hp2⟩
                           rw [HTE.out, HCC.out] at he
                           subst he
                           obtain ⟨ob2, h2, u2⟩ := HX1.out.book hp2
                           have H2 := Lib.hid h2
                           have HX2 : Hid (w2.heap[wr.heap.size]? = some (.cells #[.int .i64 o.f0, .int .i64 o.f1, .int .i64 o.f2, .int .i64 o.f3, .string o.f4.f0, .int .i64 o.f4.f1.f0, .int .i64 o.f4.f1.f1, .string o.f4.f1.f2, .slice A8 o.f4.f1.f3.length c8, .slice A9 o.f4.f2.length c9, .slice A10 o.f5.length c10, .slice A11 o.f6.length c11, .int .i64 o.f7.f0, .slice A13 o.f7.f1.length c13] 47 (0, 0))) := (u2.block wr.heap.size (blk_lt HXB.out) HFB.out.1).trans HXB.out
                           have y0 : w2.cell? ⟨wr.heap.size, 0, none⟩ = some (.int .i64 o.f0) := blk_at HX2.out 0 rfl
                           have y1 : w2.cell? ⟨wr.heap.size, 1, none⟩ = some (.int .i64 o.f1) := blk_at HX2.out 1 rfl
                           have y2 : w2.cell? ⟨wr.heap.size, 2, none⟩ = some (.int .i64 o.f2) := blk_at HX2.out 2 rfl
                           have y3 : w2.cell? ⟨wr.heap.size, 3, none⟩ = some (.int .i64 o.f3) := blk_at HX2.out 3 rfl
                           have y4 : w2.cell? ⟨wr.heap.size, 4, none⟩ = some (.string o.f4.f0) := blk_at HX2.out 4 rfl
                           have y5 : w2.cell? ⟨wr.heap.size, 5, none⟩ = some (.int .i64 o.f4.f1.f0) := blk_at HX2.out 5 rfl
                           have y6 : w2.cell? ⟨wr.heap.size, 6, none⟩ = some (.int .i64 o.f4.f1.f1) := blk_at HX2.out 6 rfl
                           have y7 : w2.cell? ⟨wr.heap.size, 7, none⟩ = some (.string o.f4.f1.f2) := blk_at HX2.out 7 rfl
                           have y8 : w2.cell? ⟨wr.heap.size, 8, none⟩ = some (.slice A8 o.f4.f1.f3.length c8) := blk_at HX2.out 8 rfl
                           have y9 : w2.cell? ⟨wr.heap.size, 9, none⟩ = some (.slice A9 o.f4.f2.length c9) := blk_at HX2.out 9 rfl
                           have y10 : w2.cell? ⟨wr.heap.size, 10, none⟩ = some (.slice A10 o.f5.length c10) := blk_at HX2.out 10 rfl
                           have y11 : w2.cell? ⟨wr.heap.size, 11, none⟩ = some (.slice A11 o.f6.length c11) := blk_at HX2.out 11 rfl
                           have y12 : w2.cell? ⟨wr.heap.size, 12, none⟩ = some (.int .i64 o.f7.f0) := blk_at HX2.out 12 rfl
                           have y13 : w2.cell? ⟨wr.heap.size, 13, none⟩ = some (.slice A13 o.f7.f1.length c13) := blk_at HX2.out 13 rfl
                           clear h2 u2 hp2 hbk))
                go_roundw
                case rel =>
                  refine ⟨k + 1, b, v, u, ob2, ov, by omega, by go_num, HMB.out.1 ▸ H2.out, HVR.out, HLK.out, HF.out.mono ?_, HVF.out.mono ?_⟩
                  · have := HST.out
                    omega
                  · have := HST.out
                    omega
                case measure => simp [intOf]; omega
            as_aux_lemma =>
              have q1 : decide (o.f3 < 1) = false := by simpa using b1
              have q2 : decide (9999 < o.f3) = false := by simpa using b2
              have HTE : Hid (b.markE o.f2 o.f3 = 134) := markE_held HVR.out HTH.out b1 b2 (by rw [← HLK.out.held]; exact HHE.out)
              have HMB : Hid (b.mark o.f2 o.f3 o.f5 o.f7 o.f6 = b ∧ b.markC o.f2 o.f3 o.f5 o.f7 o.f6 = false) := mark_bad (by rw [HTE.out]; decide) _ _ _
              have HCC : Hid (b.markC o.f2 o.f3 o.f5 o.f7 o.f6 = false) := HMB.out.2
              go_wp2_with (first
                      | (go_at_call 29; obtain ⟨gp, gl, vc, vd, lw, hbk⟩ := HX1.out.bk; refine (held29 hbk o.f2).mono ?_
                         rintro e w5 ⟨he, rfl⟩
                         rw [HBH.out] at he
                         subst he
                         clear hbk)
                      | (go_at_call 15; refine (num15 _ _).mono ?_; rintro e w' ⟨rfl, rfl⟩)
                      | (go_at_call 20; obtain ⟨gp, gl, vc, vd, lw, hbk⟩ := HX1.out.bk; refine (mark20 hbk HX1.out.bl.size o.f2 o.f3 o.f5 A10 c10 (HX1.out.awayB HC10.out) HL10.out HU.out.2.2.1 o.f7 A13 c13 (HX1.out.awayB HC13.out) HL13.out HU.out.2.1 o.f6 A11 c11 (HX1.out.awayB HC11.out) HL11.out HU.out.2.2.2 (fun i => by have := HLN.out i; have := partsRs_len o.f5; have := HU.out.2.2.1; omega) (by rw [HF.out.m]; exact HM.out)).mono ?_
                         rintro e w2 ⟨he, hp2⟩
                         rw [HTE.out, HCC.out] at he
                         subst he
                         obtain ⟨ob2, h2, u2⟩ := HX1.out.book hp2
                         have H2 := Lib.hid h2
                         have HX2 : Hid (w2.heap[wr.heap.size]? = some (.cells #[.int .i64 o.f0, .int .i64 o.f1, .int .i64 o.f2, .int .i64 o.f3, .string o.f4.f0, .int .i64 o.f4.f1.f0, .int .i64 o.f4.f1.f1, .string o.f4.f1.f2, .slice A8 o.f4.f1.f3.length c8, .slice A9 o.f4.f2.length c9, .slice A10 o.f5.length c10, .slice A11 o.f6.length c11, .int .i64 o.f7.f0, .slice A13 o.f7.f1.length c13] 47 (0, 0))) := (u2.block wr.heap.size (blk_lt HXB.out) HFB.out.1).trans HXB.out
                         have y0 : w2.cell? ⟨wr.heap.size, 0, none⟩ = some (.int .i64 o.f0) := blk_at HX2.out 0 rfl
                         have y1 : w2.cell? ⟨wr.heap.size, 1, none⟩ = some (.int .i64 o.f1) := blk_at HX2.out 1 rfl
                         have y2 : w2.cell? ⟨wr.heap.size, 2, none⟩ = some (.int .i64 o.f2) := blk_at HX2.out 2 rfl
                         have y3 : w2.cell? ⟨wr.heap.size, 3, none⟩ = some (.int .i64 o.f3) := blk_at HX2.out 3 rfl
                         have y4 : w2.cell? ⟨wr.heap.size, 4, none⟩ = some (.string o.f4.f0) := blk_at HX2.out 4 rfl
                         have y5 : w2.cell? ⟨wr.heap.size, 5, none⟩ = some (.int .i64 o.f4.f1.f0) := blk_at HX2.out 5 rfl
                         have y6 : w2.cell? ⟨wr.heap.size, 6, none⟩ = some (.int .i64 o.f4.f1.f1) := blk_at HX2.out 6 rfl
                         have y7 : w2.cell? ⟨wr.heap.size, 7, none⟩ = some (.string o.f4.f1.f2) := blk_at HX2.out 7 rfl
                         have y8 : w2.cell? ⟨wr.heap.size, 8, none⟩ = some (.slice A8 o.f4.f1.f3.length c8) := blk_at HX2.out 8 rfl
                         have y9 : w2.cell? ⟨wr.heap.size, 9, none⟩ = some (.slice A9 o.f4.f2.length c9) := blk_at HX2.out 9 rfl
                         have y10 : w2.cell? ⟨wr.heap.size, 10, none⟩ = some (.slice A10 o.f5.length c10) := blk_at HX2.out 10 rfl
                         have y11 : w2.cell? ⟨wr.heap.size, 11, none⟩ = some (.slice A11 o.f6.length c11) := blk_at HX2.out 11 rfl
                         have y12 : w2.cell? ⟨wr.heap.size, 12, none⟩ = some (.int .i64 o.f7.f0) := blk_at HX2.out 12 rfl
                         have y13 : w2.cell? ⟨wr.heap.size, 13, none⟩ = some (.slice A13 o.f7.f1.length c13) := blk_at HX2.out 13 rfl
                         clear h2 u2 hp2 hbk))
              go_roundw
              case rel =>
                refine ⟨k + 1, b, v, u, ob2, ov, by omega, by go_num, HMB.out.1 ▸ H2.out, HVR.out, HLK.out, HF.out.mono ?_, HVF.out.mono ?_⟩
                · have := HST.out
                  omega
                · have := HST.out
                  omega
              case measure => simp [intOf]; omega
          have k2' : (o.f0 == 2) = false := beq_false_of_ne k2
          clear k2
          as_aux_lemma =>
            go_wp2_with (first
                    | (go_at_call 29; obtain ⟨gp, gl, vc, vd, lw, hbk⟩ := HX1.out.bk; refine (held29 hbk o.f2).mono ?_
                       rintro e w5 ⟨he, rfl⟩
                       rw [HBH.out] at he
                       subst he
                       clear hbk)
                    | (go_at_call 15; refine (num15 _ _).mono ?_; rintro e w' ⟨rfl, rfl⟩))
            go_roundw
            case rel =>
              refine ⟨k + 1, b, v, u, ob, ov, by omega, by go_num, HX1.out, HVR.out, HLK.out, HF.out.mono ?_, HVF.out.mono ?_⟩
              all_goals (have := HST.out; omega)
            case measure => simp [intOf]; omega
        have HBH : Hid (b.held o.f2 = false) := by rw [HVR.out.held, ← HLK.out.held]; exact HHE.out
        by_cases k1 : o.f0 = 1
        · have k1' : (o.f0 == 1) = true := by simp [k1]
          clear k1
          as_aux_lemma =>
            have HTE : Hid (b.tookE o.f2 = 0) := tookE_ok HVR.out HTH.out (by rw [← HLK.out.held]; exact HHE.out)
            go_wp2_with (first
                  | (go_at_call 29; obtain ⟨gp, gl, vc, vd, lw, hbk⟩ := HX1.out.bk; refine (held29 hbk o.f2).mono ?_
                     rintro e w5 ⟨he, rfl⟩
                     rw [HBH.out] at he
                     subst he
                     clear hbk)
                  | (go_at_call 15; refine (num15 _ _).mono ?_; rintro e w' ⟨rfl, rfl⟩)
                  | (go_at_call 18; obtain ⟨gp, gl, vc, vd, lw, hbk⟩ := HX1.out.bk; refine (took18 hbk HX1.out.bl.size o.f2 o.f4 A8 c8 (HX1.out.awayB HC8.out) HL8.out A9 c9 (HX1.out.awayB HC9.out) HL9.out HU.out.1 (fun i => by have := HLN.out i; omega)).mono ?_
                     rintro e w2 ⟨he, hp2⟩
                     rw [HTE.out] at he
                     subst he
                     obtain ⟨ob2, h2, u2⟩ := HX1.out.book hp2
                     have H2 := Lib.hid h2
                     clear h2 u2 hp2 hbk))
            go_roundw
            case rel =>
              refine ⟨k + 1, _, v, _, ob2, ov, by omega, by go_num, H2.out, HVR.out.took o.f2 o.f4, ?_, (HF.out.took _ _).mono ?_, HVF.out.mono ?_⟩
              · split
                · exact HLK.out.logged _ _
                · exact HLK.out
              · have := HST.out
                have : 1 ≤ partsO o := by unfold partsO partsR; omega
                omega
              · have := HST.out
                omega
            case measure => simp [intOf]; omega
        have k1' : (o.f0 == 1) = false := beq_false_of_ne k1
        clear k1
        by_cases k2 : o.f0 = 2
        · have k2' : (o.f0 == 2) = true := by simp [k2]
          clear k2
          by_cases b1 : o.f3 < 1
          · as_aux_lemma =>
              have q1 : decide (o.f3 < 1) = true := by simpa using b1
              have HTE : Hid (b.markE o.f2 o.f3 = 133) := markE_bad HVR.out HTH.out (.inl b1)
              have HMB : Hid (b.mark o.f2 o.f3 o.f5 o.f7 o.f6 = b ∧ b.markC o.f2 o.f3 o.f5 o.f7 o.f6 = false) := mark_bad (by rw [HTE.out]; decide) _ _ _
              have HCC : Hid (b.markC o.f2 o.f3 o.f5 o.f7 o.f6 = false) := HMB.out.2
              go_wp2_with (first
                      | (go_at_call 29; obtain ⟨gp, gl, vc, vd, lw, hbk⟩ := HX1.out.bk; refine (held29 hbk o.f2).mono ?_
                         rintro e w5 ⟨he, rfl⟩
                         rw [HBH.out] at he
                         subst he
                         clear hbk)
                      | (go_at_call 15; refine (num15 _ _).mono ?_; rintro e w' ⟨rfl, rfl⟩)
                      | (go_at_call 20; obtain ⟨gp, gl, vc, vd, lw, hbk⟩ := HX1.out.bk; refine (mark20 hbk HX1.out.bl.size o.f2 o.f3 o.f5 A10 c10 (HX1.out.awayB HC10.out) HL10.out HU.out.2.2.1 o.f7 A13 c13 (HX1.out.awayB HC13.out) HL13.out HU.out.2.1 o.f6 A11 c11 (HX1.out.awayB HC11.out) HL11.out HU.out.2.2.2 (fun i => by have := HLN.out i; have := partsRs_len o.f5; have := HU.out.2.2.1; omega) (by rw [HF.out.m]; exact HM.out)).mono ?_
                         rintro e w2 ⟨he, hp2⟩
                         rw [HTE.out, HCC.out] at he
                         subst he
                         obtain ⟨ob2, h2, u2⟩ := HX1.out.book hp2
                         have H2 := Lib.hid h2
                         have HX2 : Hid (w2.heap[wr.heap.size]? = some (.cells #[.int .i64 o.f0, .int .i64 o.f1, .int .i64 o.f2, .int .i64 o.f3, .string o.f4.f0, .int .i64 o.f4.f1.f0, .int .i64 o.f4.f1.f1, .string o.f4.f1.f2, .slice A8 o.f4.f1.f3.length c8, .slice A9 o.f4.f2.length c9, .slice A10 o.f5.length c10, .slice A11 o.f6.length c11, .int .i64 o.f7.f0, .slice A13 o.f7.f1.length c13] 47 (0, 0))) := (u2.block wr.heap.size (blk_lt HXB.out) HFB.out.1).trans HXB.out
                         have y0 : w2.cell? ⟨wr.heap.size, 0, none⟩ = some (.int .i64 o.f0) := blk_at HX2.out 0 rfl
                         have y1 : w2.cell? ⟨wr.heap.size, 1, none⟩ = some (.int .i64 o.f1) := blk_at HX2.out 1 rfl
                         have y2 : w2.cell? ⟨wr.heap.size, 2, none⟩ = some (.int .i64 o.f2) := blk_at HX2.out 2 rfl
                         have y3 : w2.cell? ⟨wr.heap.size, 3, none⟩ = some (.int .i64 o.f3) := blk_at HX2.out 3 rfl
                         have y4 : w2.cell? ⟨wr.heap.size, 4, none⟩ = some (.string o.f4.f0) := blk_at HX2.out 4 rfl
                         have y5 : w2.cell? ⟨wr.heap.size, 5, none⟩ = some (.int .i64 o.f4.f1.f0) := blk_at HX2.out 5 rfl
                         have y6 : w2.cell? ⟨wr.heap.size, 6, none⟩ = some (.int .i64 o.f4.f1.f1) := blk_at HX2.out 6 rfl
                         have y7 : w2.cell? ⟨wr.heap.size, 7, none⟩ = some (.string o.f4.f1.f2) := blk_at HX2.out 7 rfl
                         have y8 : w2.cell? ⟨wr.heap.size, 8, none⟩ = some (.slice A8 o.f4.f1.f3.length c8) := blk_at HX2.out 8 rfl
                         have y9 : w2.cell? ⟨wr.heap.size, 9, none⟩ = some (.slice A9 o.f4.f2.length c9) := blk_at HX2.out 9 rfl
                         have y10 : w2.cell? ⟨wr.heap.size, 10, none⟩ = some (.slice A10 o.f5.length c10) := blk_at HX2.out 10 rfl
                         have y11 : w2.cell? ⟨wr.heap.size, 11, none⟩ = some (.slice A11 o.f6.length c11) := blk_at HX2.out 11 rfl
                         have y12 : w2.cell? ⟨wr.heap.size, 12, none⟩ = some (.int .i64 o.f7.f0) := blk_at HX2.out 12 rfl
                         have y13 : w2.cell? ⟨wr.heap.size, 13, none⟩ = some (.slice A13 o.f7.f1.length c13) := blk_at HX2.out 13 rfl
                         clear h2 u2 hp2 hbk))
              go_roundw
              case rel =>
                refine ⟨k + 1, b, v, u, ob2, ov, by omega, by go_num, HMB.out.1 ▸ H2.out, HVR.out, HLK.out, HF.out.mono ?_, HVF.out.mono ?_⟩
                · have := HST.out
                  omega
                · have := HST.out
                  omega
              case measure => simp [intOf]; omega
          by_cases b2 : 9999 < o.f3
          · as_aux_lemma =>
              have q1 : decide (o.f3 < 1) = false := by simpa using b1
              have q2 : decide (9999 < o.f3) = true := by simpa using b2
              have HTE : Hid (b.markE o.f2 o.f3 = 133) := markE_bad HVR.out HTH.out (.inr b2)
              have HMB : Hid (b.mark o.f2 o.f3 o.f5 o.f7 o.f6 = b ∧ b.markC o.f2 o.f3 o.f5 o.f7 o.f6 = false) := mark_bad (by rw [HTE.out]; decide) _ _ _
              have HCC : Hid (b.markC o.f2 o.f3 o.f5 o.f7 o.f6 = false) := HMB.out.2
              go_wp2_with (first
                      | (go_at_call 29; obtain ⟨gp, gl, vc, vd, lw, hbk⟩ := HX1.out.bk; refine (held29 hbk o.f2).mono ?_
                         rintro e w5 ⟨he, rfl⟩
                         rw [HBH.out] at he
                         subst he
                         clear hbk)
                      | (go_at_call 15; refine (num15 _ _).mono ?_; rintro e w' ⟨rfl, rfl⟩)
                      | (go_at_call 20; obtain ⟨gp, gl, vc, vd, lw, hbk⟩ := HX1.out.bk; refine (mark20 hbk HX1.out.bl.size o.f2 o.f3 o.f5 A10 c10 (HX1.out.awayB HC10.out) HL10.out HU.out.2.2.1 o.f7 A13 c13 (HX1.out.awayB HC13.out) HL13.out HU.out.2.1 o.f6 A11 c11 (HX1.out.awayB HC11.out) HL11.out HU.out.2.2.2 (fun i => by have := HLN.out i; have := partsRs_len o.f5; have := HU.out.2.2.1; omega) (by rw [HF.out.m]; exact HM.out)).mono ?_
                         rintro e w2 ⟨he, hp2⟩
                         rw [HTE.out, HCC.out] at he
                         subst he
                         obtain ⟨ob2, h2, u2⟩ := HX1.out.book hp2
                         have H2 := Lib.hid h2
                         have HX2 : Hid (w2.heap[wr.heap.size]? = some (.cells #[.int .i64 o.f0, .int .i64 o.f1, .int .i64 o.f2, .int .i64 o.f3, .string o.f4.f0, .int .i64 o.f4.f1.f0, .int .i64 o.f4.f1.f1, .string o.f4.f1.f2, .slice A8 o.f4.f1.f3.length c8, .slice A9 o.f4.f2.length c9, .slice A10 o.f5.length c10, .slice A11 o.f6.length c11, .int .i64 o.f7.f0, .slice A13 o.f7.f1.length c13] 47 (0, 0))) := (u2.block wr.heap.size (blk_lt HXB.out) HFB.out.1).trans HXB.out
                         have y0 : w2.cell? ⟨wr.heap.size, 0, none⟩ = some (.int .i64 o.f0) := blk_at HX2.out 0 rfl
                         have y1 : w2.cell? ⟨wr.heap.size, 1, none⟩ = some (.int .i64 o.f1) := blk_at HX2.out 1 rfl
                         have y2 : w2.cell? ⟨wr.heap.size, 2, none⟩ = some (.int .i64 o.f2) := blk_at HX2.out 2 rfl
                         have y3 : w2.cell? ⟨wr.heap.size, 3, none⟩ = some (.int .i64 o.f3) := blk_at HX2.out 3 rfl
                         have y4 : w2.cell? ⟨wr.heap.size, 4, none⟩ = some (.string o.f4.f0) := blk_at HX2.out 4 rfl
                         have y5 : w2.cell? ⟨wr.heap.size, 5, none⟩ = some (.int .i64 o.f4.f1.f0) := blk_at HX2.out 5 rfl
                         have y6 : w2.cell? ⟨wr.heap.size, 6, none⟩ = some (.int .i64 o.f4.f1.f1) := blk_at HX2.out 6 rfl
                         have y7 : w2.cell? ⟨wr.heap.size, 7, none⟩ = some (.string o.f4.f1.f2) := blk_at HX2.out 7 rfl
                         have y8 : w2.cell? ⟨wr.heap.size, 8, none⟩ = some (.slice A8 o.f4.f1.f3.length c8) := blk_at HX2.out 8 rfl
                         have y9 : w2.cell? ⟨wr.heap.size, 9, none⟩ = some (.slice A9 o.f4.f2.length c9) := blk_at HX2.out 9 rfl
                         have y10 : w2.cell? ⟨wr.heap.size, 10, none⟩ = some (.slice A10 o.f5.length c10) := blk_at HX2.out 10 rfl
                         have y11 : w2.cell? ⟨wr.heap.size, 11, none⟩ = some (.slice A11 o.f6.length c11) := blk_at HX2.out 11 rfl
                         have y12 : w2.cell? ⟨wr.heap.size, 12, none⟩ = some (.int .i64 o.f7.f0) := blk_at HX2.out 12 rfl
                         have y13 : w2.cell? ⟨wr.heap.size, 13, none⟩ = some (.slice A13 o.f7.f1.length c13) := blk_at HX2.out 13 rfl
                         clear h2 u2 hp2 hbk))
              go_roundw
              case rel =>
                refine ⟨k + 1, b, v, u, ob2, ov, by omega, by go_num, HMB.out.1 ▸ H2.out, HVR.out, HLK.out, HF.out.mono ?_, HVF.out.mono ?_⟩
                · have := HST.out
                  omega
                · have := HST.out
                  omega
              case measure => simp [intOf]; omega
          have q1 : decide (o.f3 < 1) = false := by simpa using b1
          have q2 : decide (9999 < o.f3) = false := by simpa using b2
          have HTE : Hid (b.markE o.f2 o.f3 = 0) := markE_ok HVR.out HTH.out b1 b2 (by rw [← HLK.out.held]; exact HHE.out)
          have HTH2 : Hid (0 ≤ o.f2 ∧ o.f2 < 4) := there_lt HTH.out hn4
          rcases hcc : b.markC o.f2 o.f3 o.f5 o.f7 o.f6 with _ | _
          all_goals (
            as_aux_lemma =>
              have HCC := Lib.hid hcc
              clear hcc
              have HCP : Hid (v.copies o.f2 o.f3 mode n back = _) := ((HLK.out.copies o.f2 o.f3 mode n back).trans (HVR.out.copies HLG.out.1 HLG.out.2.2.1 HLG.out.2.2.2.2 o.f2 o.f3 o.f5 o.f7 o.f6 HTE.out).symm).trans HCC.out
              have HMR : Hid (VR (b.mark o.f2 o.f3 o.f5 o.f7 o.f6) (u.sees o.f2 o.f3 o.f5 o.f7 o.f6 _ mode) mode back n) := HCC.out ▸ HVR.out.mark HLG.out.1 HLG.out.2.2.1 HLG.out.2.2.2.2 o.f2 o.f3 o.f5 o.f7 o.f6 HTE.out
              go_wp2_with (first
                    | (go_at_call 29; obtain ⟨gp, gl, vc, vd, lw, hbk⟩ := HX1.out.bk; refine (held29 hbk o.f2).mono ?_
                       rintro e w5 ⟨he, rfl⟩
                       rw [HBH.out] at he
                       subst he
                       clear hbk)
                    | (go_at_call 15; refine (num15 _ _).mono ?_; rintro e w' ⟨rfl, rfl⟩)
                    | (go_at_call 20; obtain ⟨gp, gl, vc, vd, lw, hbk⟩ := HX1.out.bk; refine (mark20 hbk HX1.out.bl.size o.f2 o.f3 o.f5 A10 c10 (HX1.out.awayB HC10.out) HL10.out HU.out.2.2.1 o.f7 A13 c13 (HX1.out.awayB HC13.out) HL13.out HU.out.2.1 o.f6 A11 c11 (HX1.out.awayB HC11.out) HL11.out HU.out.2.2.2 (fun i => by have := HLN.out i; have := partsRs_len o.f5; have := HU.out.2.2.1; omega) (by rw [HF.out.m]; exact HM.out)).mono ?_
                       rintro e w2 ⟨he, hp2⟩
                       rw [HTE.out, HCC.out] at he
                       subst he
                       obtain ⟨ob2, h2, u2⟩ := HX1.out.book hp2
                       have H2 := Lib.hid h2
                       have HX2 : Hid (w2.heap[wr.heap.size]? = some (.cells #[.int .i64 o.f0, .int .i64 o.f1, .int .i64 o.f2, .int .i64 o.f3, .string o.f4.f0, .int .i64 o.f4.f1.f0, .int .i64 o.f4.f1.f1, .string o.f4.f1.f2, .slice A8 o.f4.f1.f3.length c8, .slice A9 o.f4.f2.length c9, .slice A10 o.f5.length c10, .slice A11 o.f6.length c11, .int .i64 o.f7.f0, .slice A13 o.f7.f1.length c13] 47 (0, 0))) := (u2.block wr.heap.size (blk_lt HXB.out) HFB.out.1).trans HXB.out
                       have y0 : w2.cell? ⟨wr.heap.size, 0, none⟩ = some (.int .i64 o.f0) := blk_at HX2.out 0 rfl
                       have y1 : w2.cell? ⟨wr.heap.size, 1, none⟩ = some (.int .i64 o.f1) := blk_at HX2.out 1 rfl
                       have y2 : w2.cell? ⟨wr.heap.size, 2, none⟩ = some (.int .i64 o.f2) := blk_at HX2.out 2 rfl
                       have y3 : w2.cell? ⟨wr.heap.size, 3, none⟩ = some (.int .i64 o.f3) := blk_at HX2.out 3 rfl
                       have y4 : w2.cell? ⟨wr.heap.size, 4, none⟩ = some (.string o.f4.f0) := blk_at HX2.out 4 rfl
                       have y5 : w2.cell? ⟨wr.heap.size, 5, none⟩ = some (.int .i64 o.f4.f1.f0) := blk_at HX2.out 5 rfl
                       have y6 : w2.cell? ⟨wr.heap.size, 6, none⟩ = some (.int .i64 o.f4.f1.f1) := blk_at HX2.out 6 rfl
                       have y7 : w2.cell? ⟨wr.heap.size, 7, none⟩ = some (.string o.f4.f1.f2) := blk_at HX2.out 7 rfl
                       have y8 : w2.cell? ⟨wr.heap.size, 8, none⟩ = some (.slice A8 o.f4.f1.f3.length c8) := blk_at HX2.out 8 rfl
                       have y9 : w2.cell? ⟨wr.heap.size, 9, none⟩ = some (.slice A9 o.f4.f2.length c9) := blk_at HX2.out 9 rfl
                       have y10 : w2.cell? ⟨wr.heap.size, 10, none⟩ = some (.slice A10 o.f5.length c10) := blk_at HX2.out 10 rfl
                       have y11 : w2.cell? ⟨wr.heap.size, 11, none⟩ = some (.slice A11 o.f6.length c11) := blk_at HX2.out 11 rfl
                       have y12 : w2.cell? ⟨wr.heap.size, 12, none⟩ = some (.int .i64 o.f7.f0) := blk_at HX2.out 12 rfl
                       have y13 : w2.cell? ⟨wr.heap.size, 13, none⟩ = some (.slice A13 o.f7.f1.length c13) := blk_at HX2.out 13 rfl
                       clear h2 u2 hp2 hbk)
                    | (go_at_call 30; refine (copies30o H2.out.vw o A8 c8 A9 c9 A10 c10 A11 c11 A13 c13 n HTH2.out.1 HTH2.out.2 hn4 mode back).mono ?_
                       rintro e w3 ⟨rfl, hb3⟩
                       rw [HCP.out]
                       have H3' : Hid (HV w w3 ob2 ov gb gv _ v) := H2.out.below hb3.out
                       have HX3 : Hid (w3.heap[wr.heap.size]? = some (.cells #[.int .i64 o.f0, .int .i64 o.f1, .int .i64 o.f2, .int .i64 o.f3, .string o.f4.f0, .int .i64 o.f4.f1.f0, .int .i64 o.f4.f1.f1, .string o.f4.f1.f2, .slice A8 o.f4.f1.f3.length c8, .slice A9 o.f4.f2.length c9, .slice A10 o.f5.length c10, .slice A11 o.f6.length c11, .int .i64 o.f7.f0, .slice A13 o.f7.f1.length c13] 47 (0, 0))) := (hb3.out.block wr.heap.size (blk_lt HX2.out)).trans HX2.out
                       have z0 : w3.cell? ⟨wr.heap.size, 0, none⟩ = some (.int .i64 o.f0) := blk_at HX3.out 0 rfl
                       have z1 : w3.cell? ⟨wr.heap.size, 1, none⟩ = some (.int .i64 o.f1) := blk_at HX3.out 1 rfl
                       have z2 : w3.cell? ⟨wr.heap.size, 2, none⟩ = some (.int .i64 o.f2) := blk_at HX3.out 2 rfl
                       have z3 : w3.cell? ⟨wr.heap.size, 3, none⟩ = some (.int .i64 o.f3) := blk_at HX3.out 3 rfl
                       have z4 : w3.cell? ⟨wr.heap.size, 4, none⟩ = some (.string o.f4.f0) := blk_at HX3.out 4 rfl
                       have z5 : w3.cell? ⟨wr.heap.size, 5, none⟩ = some (.int .i64 o.f4.f1.f0) := blk_at HX3.out 5 rfl
                       have z6 : w3.cell? ⟨wr.heap.size, 6, none⟩ = some (.int .i64 o.f4.f1.f1) := blk_at HX3.out 6 rfl
                       have z7 : w3.cell? ⟨wr.heap.size, 7, none⟩ = some (.string o.f4.f1.f2) := blk_at HX3.out 7 rfl
                       have z8 : w3.cell? ⟨wr.heap.size, 8, none⟩ = some (.slice A8 o.f4.f1.f3.length c8) := blk_at HX3.out 8 rfl
                       have z9 : w3.cell? ⟨wr.heap.size, 9, none⟩ = some (.slice A9 o.f4.f2.length c9) := blk_at HX3.out 9 rfl
                       have z10 : w3.cell? ⟨wr.heap.size, 10, none⟩ = some (.slice A10 o.f5.length c10) := blk_at HX3.out 10 rfl
                       have z11 : w3.cell? ⟨wr.heap.size, 11, none⟩ = some (.slice A11 o.f6.length c11) := blk_at HX3.out 11 rfl
                       have z12 : w3.cell? ⟨wr.heap.size, 12, none⟩ = some (.int .i64 o.f7.f0) := blk_at HX3.out 12 rfl
                       have z13 : w3.cell? ⟨wr.heap.size, 13, none⟩ = some (.slice A13 o.f7.f1.length c13) := blk_at HX3.out 13 rfl
                       clear hb3)
                    | (go_at_call 21; refine (sees21o H3'.out.vw H3'.out.bl.size o A8 c8 A9 c9 A10 c10 A11 c11 A13 c13 HTH2.out.1 HTH2.out.2 mode (H3'.out.awayV HC10.out) HL10.out (H3'.out.awayV HC11.out) HL11.out (H3'.out.awayV HC13.out) HL13.out ⟨HU.out.2.1, HU.out.2.2.1, HU.out.2.2.2⟩ (fun i => by have := HVF.out i; have := HPT.out; omega) _).mono ?_
                       rintro e w4 ⟨rfl, hp4⟩
                       obtain ⟨ov2, h4, u4⟩ := H3'.out.view hp4
                       have H4 := Lib.hid h4
                       clear h4 u4 hp4))
              go_roundw
              case rel =>
                refine ⟨k + 1, _, _, _, ob2, ov2, by omega, by go_num, H4.out, HMR.out, HLK.out.sees _ _ _ _ _ _ _, (HF.out.mark _ _ _ _ _).mono ?_, (HVF.out.sees _ _ _ _ _ _ _).mono ?_⟩
                all_goals (
                  have := HST.out
                  have := partsRs_len o.f5
                  unfold partsO at *
                  omega)
              case measure => simp [intOf]; omega)
        have k2' : (o.f0 == 2) = false := beq_false_of_ne k2
        clear k2
        as_aux_lemma =>
          go_wp2_with (first
                  | (go_at_call 29; obtain ⟨gp, gl, vc, vd, lw, hbk⟩ := HX1.out.bk; refine (held29 hbk o.f2).mono ?_
                     rintro e w5 ⟨he, rfl⟩
                     rw [HBH.out] at he
                     subst he
                     clear hbk)
                  | (go_at_call 15; refine (num15 _ _).mono ?_; rintro e w' ⟨rfl, rfl⟩))
          go_roundw
          case rel =>
            refine ⟨k + 1, b, v, u, ob, ov, by omega, by go_num, HX1.out, HVR.out, HLK.out, HF.out.mono ?_, HVF.out.mono ?_⟩
            all_goals (have := HST.out; omega)
          case measure => simp [intOf]; omega
end Go.Proofs.Ytomfknblehkocaa.C
