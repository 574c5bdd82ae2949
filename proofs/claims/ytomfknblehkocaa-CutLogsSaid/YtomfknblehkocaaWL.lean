/- CutLogs, walked. -/
import Derived.Test.YtomfknblehkocaaVE
import Derived.Deep.CutBlock
namespace Go.Proofs.Ytomfknblehkocaa.C
open Go.RowKit Go.Proofs.YtomfknblehkocaaW.PrintWords Go.Proofs.YtomfknblehkocaaW.PrintLast
set_option linter.unusedVariables false
set_option linter.unusedSimpArgs false

theorem tookE_no {b : Bk} {v : Vw} {mode back : Int} {n : Nat} (h : VR b v mode back n) {port : Int} (ht : there n port = false) : b.tookE port = 132 := by unfold Bk.tookE; rw [h.knows, if_pos ht]
theorem tookE_held {b : Bk} {v : Vw} {mode back : Int} {n : Nat} (h : VR b v mode back n) {port : Int} (ht : there n port = true) (hh : v.held port mode n = true) : b.tookE port = 134 := by unfold Bk.tookE; rw [h.knows, if_neg (by rw [ht]; decide), h.held, if_pos hh]
theorem tookE_ok {b : Bk} {v : Vw} {mode back : Int} {n : Nat} (h : VR b v mode back n) {port : Int} (ht : there n port = true) (hh : v.held port mode n = false) : b.tookE port = 0 := by unfold Bk.tookE; rw [h.knows, if_neg (by rw [ht]; decide), h.held, if_neg (by rw [hh]; decide)]
theorem markE_no {b : Bk} {v : Vw} {mode back : Int} {n : Nat} (h : VR b v mode back n) {port id : Int} (ht : there n port = false) : b.markE port id = 132 := by unfold Bk.markE; rw [h.knows, if_pos ht]
theorem markE_bad {b : Bk} {v : Vw} {mode back : Int} {n : Nat} (h : VR b v mode back n) {port id : Int} (ht : there n port = true) (hi : id < 1 ∨ 9999 < id) : b.markE port id = 133 := by unfold Bk.markE; rw [h.knows, if_neg (by rw [ht]; decide), if_pos hi]
theorem markE_held {b : Bk} {v : Vw} {mode back : Int} {n : Nat} (h : VR b v mode back n) {port id : Int} (ht : there n port = true) (h1 : ¬ id < 1) (h2 : ¬ 9999 < id) (hh : v.held port mode n = true) : b.markE port id = 134 := by unfold Bk.markE; rw [h.knows, if_neg (by rw [ht]; decide), if_neg (by omega), h.held, if_pos hh]
theorem markE_ok {b : Bk} {v : Vw} {mode back : Int} {n : Nat} (h : VR b v mode back n) {port id : Int} (ht : there n port = true) (h1 : ¬ id < 1) (h2 : ¬ 9999 < id) (hh : v.held port mode n = false) : b.markE port id = 0 := by unfold Bk.markE; rw [h.knows, if_neg (by rw [ht]; decide), if_neg (by omega), h.held, if_neg (by rw [hh]; decide)]
theorem there_lt {n : Nat} {port : Int} (h : there n port = true) (hn : n ≤ 4) : 0 ≤ port ∧ port < 4 := by
  unfold there at h
  rw [Bool.and_eq_true, decide_eq_true_eq, decide_eq_true_eq] at h
  omega

theorem logs_CV {W : World} {gl : Nat} {lv : List Value} {logs : List (List S45)} (hb : W.heap[gl]? = some (.cells lv.toArray 35 (0, 0))) (hl : lv.length = logs.length) (h4 : logs.length ≤ 100)
    (hr : ∀ i, i < logs.length → ∃ A c, lv.getD i (.slice none 0 0) = .slice A (logs.getD i []).length c ∧ (logs.getD i []).length ≤ c ∧ Kd.C k45 W A (logs.getD i []).length (logs.getD i [])) : Kd.C (Kd.slice 45 k45) W (some ⟨gl, 0, none⟩) logs.length logs := by
  refine ⟨rfl, by omega, fun _ => ⟨_, rfl, fun j p hp => ?_⟩⟩
  have hj : j < logs.length := (List.getElem?_eq_some_iff.1 hp).1
  obtain ⟨A, c, h1, h2, h3⟩ := hr j hj
  have hpj : logs.getD j [] = p := by rw [List.getD_eq_getElem?_getD, hp]; rfl
  rw [hpj] at h1 h2 h3
  refine ⟨[.slice A p.length c], rfl, ⟨A, c, rfl, h2, h3⟩, fun i u hu => ?_⟩
  have hi : i = 0 := by
    have := (List.getElem?_eq_some_iff.1 hu).1
    simp at this
    exact this
  subst hi
  simp at hu
  subst hu
  have e : (⟨gl, 0, none⟩ : Addr).add (j * (Kd.slice 45 k45).sz + 0) = ⟨gl, j, none⟩ := by
    show (⟨gl, 0, none⟩ : Addr).add (j * 1 + 0) = _
    rw [Nat.mul_one, Nat.add_zero]
    exact add_plain gl j
  rw [e]
  refine blk_at hb j ?_
  rw [List.getElem?_toArray, List.getElem?_eq_getElem (by omega)]
  rw [List.getD_eq_getElem?_getD, List.getElem?_eq_getElem (by omega)] at h1
  exact congrArg some h1
theorem logs_readsV {w2 W : World} {S : Nat → Prop} {base gl : Nat} {own own' : Nat → Nat} {lv : List Value} {logs : List (List S45)} (hb : w2.heap[gl]? = some (.cells lv.toArray 35 (0, 0))) (hS : S gl) (hl : lv.length = logs.length) (h4 : logs.length ≤ 100)
    (hr : ∀ i, i < logs.length → Kd.R k45 45 w2 base S (lv.getD i (.slice none 0 0)) (logs.getD i [])) (u : Upd own w2 own' W) (ho : ∀ k, S k → own k = 0) : Kd.C (Kd.slice 45 k45) W (some ⟨gl, 0, none⟩) logs.length logs := by
  refine logs_CV ((u.block gl (blk_lt hb) (ho gl hS)).trans hb) hl h4 (fun i hi => ?_)
  exact Kd.R_reads (Kd.R_step (hr i hi) (fun k hk hlt => u.block k hlt (ho k hk)))
theorem there_le {n : Nat} {port : Int} (h : there n port = true) : decide ((n : Int) ≤ port) = false := by
  unfold there at h
  rw [Bool.and_eq_true, decide_eq_true_eq, decide_eq_true_eq] at h
  exact decide_eq_false (by omega)
theorem VR.took_not {b : Bk} {v : Vw} {mode back : Int} {n : Nat} (h : VR b v mode back n) (port : Int) (x : S45) (hw : b.tookE port ≠ 0 ∨ v.copied = false ∨ v.shut port.toNat = true) : VR (b.took port x) v mode back n := by
  have := h.took port x
  rw [if_neg (fun hc => by rcases hw with h1 | h1 | h1 <;> simp_all)] at this
  exact this
theorem VR.took_yes {b : Bk} {v : Vw} {mode back : Int} {n : Nat} (h : VR b v mode back n) (port : Int) (x : S45) (h0 : b.tookE port = 0) (h1 : v.copied = true) (h2 : v.shut port.toNat = false) : VR (b.took port x) (v.logged port.toNat [x]) mode back n := by
  have := h.took port x
  rw [if_pos ⟨h0, h1, h2⟩] at this
  exact this
theorem logc_blk {w : World} {g : Nat} {a0 a1 a2 a3 a4 a5 a6 a7 a8 a13 : Value} {lv : Nat → Value} (h : w.heap[g]? = some (.cells #[a0, a1, a2, a3, a4, a5, a6, a7, a8, lv 0, lv 1, lv 2, lv 3, a13] 39 (0, 0))) (p : Nat) (hp : p < 4) : w.cell? ⟨g, 9 + p, none⟩ = some (lv p) := by
  refine blk_at h (9 + p) ?_
  match p, hp with
  | 0, _ => rfl
  | 1, _ => rfl
  | 2, _ => rfl
  | 3, _ => rfl
theorem VwAt.setHd {W : World} {base g : Nat} {own : Nat → Nat} {v : Vw} {va vp : Value} {lv : Nat → Value} (h : VwAt W base own g v va vp lv) (x : Bool) : VwAt (W.setCell ⟨g, 13, none⟩ (.bool x)) base own g ⟨v.id, v.copied, v.st, v.pend, v.closed, v.logs, x⟩ va vp lv :=
  h.put 13 _ (blk_put h.hb 13 _ rfl) h.ra h.rp h.rl h.cl h.ll
theorem HV.hand {w W : World} {ob ov : Nat → Nat} {gb gv : Nat} {b : Bk} {v : Vw} (h : HV w W ob ov gb gv b v) (x : Bool) : ∃ ov', HV w (W.setCell ⟨gv, 13, none⟩ (.bool x)) ob ov' gb gv b ⟨v.id, v.copied, v.st, v.pend, v.closed, v.logs, x⟩ := by
  obtain ⟨va, vp, lv, hv⟩ := h.vw
  obtain ⟨ov', h2, -⟩ := h.view ⟨ov, ⟨va, vp, lv, hv.setHd x⟩, (Upd.refl ov W).set (p := ⟨gv, 13, none⟩) (by have := hv.og; show ov gv ≠ 0; omega) _⟩
  exact ⟨ov', h2⟩
set_option maxRecDepth 100000 in
set_option maxHeartbeats 40000000 in
theorem logs_walk (mode ports back : Int) (l : List S47) (A : Option Addr) (cc : Nat) (w : World) (hC : Kd.C k47 w A l.length l) (hc : l.length ≤ cc) (hl : ∀ y ∈ l, lenO y) :
    Calls Try.prog 3 #[.int .i64 mode, .int .i64 ports, .int .i64 back, .slice A l.length cc] w fun e w' => e = .returned (.bool true) ∧ Below w.heap.size w w' := by
  obtain ⟨m, hm⟩ : ∃ m, m = l.length := ⟨_, rfl⟩
  have Hn := Lib.hid hm
  have HC := Lib.hid hC
  have Hl := Lib.hid hl
  have hmax : m ≤ 9223372036854775807 := by rw [hm]; exact Kd.C_max hC
  have HLE := Lib.hid (legal13 mode ports back w)
  have HIN : Hid (∀ W : World, Below w.heap.size w W → Calls Try.prog 17 #[.slice A m cc] W fun e w' => InsideAns l e ∧ Hid (Below W.heap.size W w')) := fun W hW => by
    rw [hm]
    exact inside17 l A cc W (Kd.C_below hC hW) hl
  rw [← hm]
  clear hC hm hl
  by_cases hE : newE mode ports back = 0
  rotate_left
  · have HNE : Hid (Calls Try.prog 14 #[.int .i64 mode, .int .i64 ports, .int .i64 back] w fun e w' => e = .returned (.tuple #[.pointer none, .int .i64 (newE mode ports back)]) ∧ w = w') := by
      refine (new14 mode ports back w).mono ?_
      intro e w' h
      unfold NewAns at h
      rw [if_neg hE] at h
      exact h
    have hB := newE_bad hE
    rw [beq_false_of_ne hE] at HLE
    clear hE
    rcases hB with h | h
    all_goals (
      rw [h] at HNE
      clear h
      go_enter Try.func3, Try.ntmps3
      go_wp2_with (first
        | (go_at_call 13; refine HLE.out.mono ?_; rintro e w' ⟨rfl, rfl⟩)
        | (go_at_call 14; refine HNE.out.mono ?_; rintro e w' ⟨rfl, rfl⟩)
        | (go_at_call 15; refine (num15 _ _).mono ?_; rintro e w' ⟨rfl, rfl⟩))
      go_ret
      exact ⟨rfl, Below.refl _ _⟩)
  obtain ⟨hM, n, rfl, hn1, hn4, hb1, hbn, hb2⟩ := legal_nat hE
  have HM := Lib.hid hM
  have HLG := Lib.hid (And.intro hn1 (And.intro hn4 (And.intro hb1 (And.intro hbn hb2))))
  have HNE : Hid (Calls Try.prog 14 #[.int .i64 mode, .int .i64 n, .int .i64 back] w fun e w' => NewOk mode n back w e w') := by
    refine (new14 mode n back w).mono ?_
    intro e w' h
    unfold NewAns at h
    rw [if_pos hE, Int.toNat_natCast] at h
    exact h
  rw [show (newE mode n back == 0) = true by simp [hE]] at HLE
  clear hE hM hn1 hb1 hbn hb2
  go_enter Try.func3, Try.ntmps3
  go_wp2_with (first
    | (go_at_call 13; refine HLE.out.mono ?_; rintro e w' ⟨rfl, rfl⟩)
    | (go_at_call 14; refine HNE.out.mono ?_; intro e w1 ha
       obtain ⟨gb, ob, rfl, hg, hb1, hB⟩ := ha
       have H1 := Lib.hid hb1
       have HB1 := Lib.hid hB
       clear hb1 hB)
    | (go_at_call 15; refine (num15 _ _).mono ?_; rintro e w' ⟨rfl, rfl⟩)
    | (go_at_call 16; refine (known16 mode HM.out w1).mono ?_; rintro e w2 ⟨rfl, hb⟩
       have HK2 := Lib.hid hb
       have HB2 : Hid (Below w.heap.size w w2) := HB1.out.trans (hb.mono HB1.out.size)
       clear hb)
    | (go_at_call 17; refine (HIN.out w2 HB2.out).mono ?_; rintro e w3 ⟨⟨bi, rfl, hbi⟩, hb⟩
       have HK3 := Lib.hid hb.out
       have HB3 : Hid (Below w.heap.size w w3) := HB2.out.trans (hb.out.mono HB2.out.size)
       have HBI := Lib.hid hbi
       clear hb hbi
       cases bi))
  · go_ret
    exact ⟨rfl, HB3.out⟩
  have Hp : Hid (partsOs l ≤ 10000) := HBI.out (by first | rfl | trivial)
  have H3 : Hid (HV w (w3.alloc (.cells #[.int .i64 0, .bool false, .int .i64 0, .slice none 0 0, .slice none 0 0, .bool false, .bool false, .bool false, .bool false, .slice none 0 0, .slice none 0 0, .slice none 0 0, .slice none 0 0, .bool false] 39)) ob (fun k => if k = w3.heap.size then 1 else 0) gb w3.heap.size (Bk.new mode n back) (Vw.fresh 0)) := HV.start ((H1.out.below HK2.out).below HK3.out) HB3.out
  have HVR : Hid (VR (Bk.new mode n back) (Vw.fresh 0) mode back n) := VR.new HLG.out.2.1 HLG.out.1 HLG.out.2.2.1 HLG.out.2.2.2.2
  clear HBI H1 HK2 HK3 HB1 HB2 HB3 HNE HIN HLE
  go_loopw [14] (fun v14 wr => ∃ (k : Nat) (b : Bk) (v : Vw) (ob ov : Nat → Nat), k ≤ m ∧ v14 = .int .i64 k ∧ Hid (HV w wr ob ov gb w3.heap.size b v) ∧ Hid (VR b v mode back n) ∧ Hid (Fit b mode back n (partsOs (l.take k))) ∧ Hid (VF v (partsOs (l.take k)))) (fun v14 _ => m - (intOf v14).toNat)
  case atStart => exact ⟨0, _, _, ob, _, Nat.zero_le _, rfl, H3, HVR, Fit.new _ _ _, VF.fresh _ _⟩
  case round =>
    clear H3 HVR
    generalize w3.heap.size = gv at *
    obtain ⟨k, b, v, ob, ov, hk, rfl, HH, HVR, HF, HVF⟩ := hrel
    have HB : Hid (Below w.heap.size w wr) := HH.out.bl
    by_cases hlt : k < m
    rotate_left
    · go_wp2
      go_ret
      exact ⟨rfl, HB.out⟩
    by_cases h6 : (k : Int) < 600
    rotate_left
    · have h6' : decide ((k : Int) < 600) = false := by simpa using h6
      go_wp2
      go_ret
      exact ⟨rfl, HB.out⟩
    have h6' : decide ((k : Int) < 600) = true := by simpa using h6
    obtain ⟨ad, A8, c8, A9, c9, A10, c10, A11, c11, A13, c13, rfl, e0, e1, e2, e3, e4, e5, e6, e7, e8, e9, e10, e11, e12, e13, hl8, hC8, hl9, hC9, hl10, hC10, hl11, hC11, hl13, hC13⟩ := at_T47 HC.out (k : Int) (by omega) (by rw [← Hn.out]; omega)
    have hst : partsOs (l.take (k + 1)) = partsOs (l.take k) + partsO (rd_T47 l (k : Int)) := partsOs_step l k _ (by rw [← Hn.out]; exact hlt)
    generalize rd_T47 l (k : Int) = o at *
    rw [Int.toNat_natCast] at e0 e1 e2 e3 e4 e5 e6 e7 e8 e9 e10 e11 e12 e13
    replace e0 := (HB.out.cell (World.block_lt_of_cell? w _ e0)).trans e0
    replace e1 := (HB.out.cell (World.block_lt_of_cell? w _ e1)).trans e1
    replace e2 := (HB.out.cell (World.block_lt_of_cell? w _ e2)).trans e2
    replace e3 := (HB.out.cell (World.block_lt_of_cell? w _ e3)).trans e3
    replace e4 := (HB.out.cell (World.block_lt_of_cell? w _ e4)).trans e4
    replace e5 := (HB.out.cell (World.block_lt_of_cell? w _ e5)).trans e5
    replace e6 := (HB.out.cell (World.block_lt_of_cell? w _ e6)).trans e6
    replace e7 := (HB.out.cell (World.block_lt_of_cell? w _ e7)).trans e7
    replace e8 := (HB.out.cell (World.block_lt_of_cell? w _ e8)).trans e8
    replace e9 := (HB.out.cell (World.block_lt_of_cell? w _ e9)).trans e9
    replace e10 := (HB.out.cell (World.block_lt_of_cell? w _ e10)).trans e10
    replace e11 := (HB.out.cell (World.block_lt_of_cell? w _ e11)).trans e11
    replace e12 := (HB.out.cell (World.block_lt_of_cell? w _ e12)).trans e12
    replace e13 := (HB.out.cell (World.block_lt_of_cell? w _ e13)).trans e13
    have hpo : partsO o ≤ 10000 := by
      have h1 := partsOs_take_le l (k + 1)
      have h2 := Hp.out
      omega
    have hpt : partsOs (l.take k) ≤ 10000 := Nat.le_trans (partsOs_take_le l k) Hp.out
    have hu : partsR o.f4 ≤ 100000 ∧ partsC o.f7.f1 ≤ 100000 ∧ partsRs o.f5 ≤ 100000 ∧ partsRs o.f6 ≤ 100000 := by unfold partsO at hpo; omega
    have HU := Lib.hid hu
    have HST := Lib.hid hst
    have HPO := Lib.hid hpo
    have HPT := Lib.hid hpt
    have HL8 := Lib.hid hl8
    have HL9 := Lib.hid hl9
    have HL10 := Lib.hid hl10
    have HL11 := Lib.hid hl11
    have HL13 := Lib.hid hl13
    have HC8 := Lib.hid hC8
    have HC9 := Lib.hid hC9
    have HC10 := Lib.hid hC10
    have HC11 := Lib.hid hC11
    have HC13 := Lib.hid hC13
    clear hC8 hC9 hC10 hC11 hC13 hst hpo hpt hu hl8 hl9 hl10 hl11 hl13
    have HX : Hid (HV w (wr.alloc (.cells #[.int .i64 o.f0, .int .i64 o.f1, .int .i64 o.f2, .int .i64 o.f3, .string o.f4.f0, .int .i64 o.f4.f1.f0, .int .i64 o.f4.f1.f1, .string o.f4.f1.f2, .slice A8 o.f4.f1.f3.length c8, .slice A9 o.f4.f2.length c9, .slice A10 o.f5.length c10, .slice A11 o.f6.length c11, .int .i64 o.f7.f0, .slice A13 o.f7.f1.length c13] 47)) ob ov gb gv b v) := HH.out.below ((Below.refl _ _).alloc (Nat.le_refl _) _)
    have HLN : Hid (∀ i, (b.logs.getD i []).length ≤ 10000) := fun i => Nat.le_trans (HF.out.l i) HPT.out
    have HFB : Hid (ob wr.heap.size = 0 ∧ ov wr.heap.size = 0) := ⟨HH.out.freeB (Nat.le_refl _), HH.out.freeV (Nat.le_refl _)⟩
    have hgv : gv < wr.heap.size := by have := HH.out.vw; obtain ⟨_, _, _, hv⟩ := this; exact hv.glt
    have HXB : Hid ((wr.alloc (.cells #[.int .i64 o.f0, .int .i64 o.f1, .int .i64 o.f2, .int .i64 o.f3, .string o.f4.f0, .int .i64 o.f4.f1.f0, .int .i64 o.f4.f1.f1, .string o.f4.f1.f2, .slice A8 o.f4.f1.f3.length c8, .slice A9 o.f4.f2.length c9, .slice A10 o.f5.length c10, .slice A11 o.f6.length c11, .int .i64 o.f7.f0, .slice A13 o.f7.f1.length c13] 47)).heap[wr.heap.size]? = some (.cells #[.int .i64 o.f0, .int .i64 o.f1, .int .i64 o.f2, .int .i64 o.f3, .string o.f4.f0, .int .i64 o.f4.f1.f0, .int .i64 o.f4.f1.f1, .string o.f4.f1.f2, .slice A8 o.f4.f1.f3.length c8, .slice A9 o.f4.f2.length c9, .slice A10 o.f5.length c10, .slice A11 o.f6.length c11, .int .i64 o.f7.f0, .slice A13 o.f7.f1.length c13] 47 (0, 0))) := blk_new wr _
    go_upto_block 2 with (fail)
    clear e0 e1 e2 e3 e4 e5 e6 e7 e8 e9 e10 e11 e12 e13
    go_cut [14] (fun s14 wx => ∃ b2 v2 ob2 ov2, s14 = .int .i64 k ∧ Hid (HV w wx ob2 ov2 gb gv b2 v2) ∧ Hid (VR b2 v2 mode back n) ∧ Hid (Fit b2 mode back n (partsOs (l.take (k + 1)))) ∧ Hid (VF v2 (partsOs (l.take (k + 1)))))
    case first =>
      by_cases k1 : o.f0 = 1
      · have k1' : (o.f0 == 1) = true := by simp [k1]
        clear k1
        rcases hth : there n o.f2 with _ | _
        · have HTH := Lib.hid hth
          clear hth
          as_aux_lemma =>
            have HTE : Hid (b.tookE o.f2 = 132) := tookE_no HVR.out HTH.out
            have HWHY : Hid (b.tookE o.f2 ≠ 0 ∨ v.copied = false ∨ v.shut o.f2.toNat = true) := .inl (by rw [HTE.out]; decide)
            go_wp2_with (first
                    | (go_at_call 18; obtain ⟨gp, gl, vc, vd, lw, hbk⟩ := HX.out.bk; refine (took18 hbk HX.out.bl.size o.f2 o.f4 A8 c8 (HX.out.awayB HC8.out) HL8.out A9 c9 (HX.out.awayB HC9.out) HL9.out HU.out.1 (fun i => by have := HLN.out i; omega)).mono ?_
                       rintro e w2 ⟨he, hp2⟩
                       rw [HTE.out] at he
                       subst he
                       obtain ⟨ob2, h2, u2⟩ := HX.out.book hp2
                       have H2 := Lib.hid h2
                       have HX2 : Hid (w2.heap[wr.heap.size]? = some (.cells #[.int .i64 o.f0, .int .i64 o.f1, .int .i64 o.f2, .int .i64 o.f3, .string o.f4.f0, .int .i64 o.f4.f1.f0, .int .i64 o.f4.f1.f1, .string o.f4.f1.f2, .slice A8 o.f4.f1.f3.length c8, .slice A9 o.f4.f2.length c9, .slice A10 o.f5.length c10, .slice A11 o.f6.length c11, .int .i64 o.f7.f0, .slice A13 o.f7.f1.length c13] 47 (0, 0))) := (u2.block wr.heap.size (blk_lt HXB.out) HFB.out.1).trans HXB.out
                       have y2 : w2.cell? ⟨wr.heap.size, 2, none⟩ = some (.int .i64 o.f2) := blk_at HX2.out 2 rfl
                       clear h2 u2 hp2 hbk)
                    | (go_at_call 15; refine (num15 _ _).mono ?_; rintro e w' ⟨rfl, rfl⟩))
            go_quiet (fail)
            go_wp2_with (fail)
            go_meet
            refine ⟨_, v, ob2, ov, by rfl, H2.out.below (pw_below_drewN (Below.refl _ _) _), HVR.out.took_not o.f2 o.f4 HWHY.out, (HF.out.took _ _).mono ?_, HVF.out.mono ?_⟩
            all_goals (
              have := HST.out
              have : 1 ≤ partsO o := by unfold partsO partsR; omega
              omega)
        have HTH := Lib.hid hth
        clear hth
        have HTH2 : Hid (0 ≤ o.f2 ∧ o.f2 < 4) := there_lt HTH.out hn4
        rcases hhe : v.held o.f2 mode n with _ | _
        rotate_left
        · have HHE := Lib.hid hhe
          clear hhe
          as_aux_lemma =>
            have HTE : Hid (b.tookE o.f2 = 134) := tookE_held HVR.out HTH.out HHE.out
            have HWHY : Hid (b.tookE o.f2 ≠ 0 ∨ v.copied = false ∨ v.shut o.f2.toNat = true) := .inl (by rw [HTE.out]; decide)
            go_wp2_with (first
                    | (go_at_call 18; obtain ⟨gp, gl, vc, vd, lw, hbk⟩ := HX.out.bk; refine (took18 hbk HX.out.bl.size o.f2 o.f4 A8 c8 (HX.out.awayB HC8.out) HL8.out A9 c9 (HX.out.awayB HC9.out) HL9.out HU.out.1 (fun i => by have := HLN.out i; omega)).mono ?_
                       rintro e w2 ⟨he, hp2⟩
                       rw [HTE.out] at he
                       subst he
                       obtain ⟨ob2, h2, u2⟩ := HX.out.book hp2
                       have H2 := Lib.hid h2
                       have HX2 : Hid (w2.heap[wr.heap.size]? = some (.cells #[.int .i64 o.f0, .int .i64 o.f1, .int .i64 o.f2, .int .i64 o.f3, .string o.f4.f0, .int .i64 o.f4.f1.f0, .int .i64 o.f4.f1.f1, .string o.f4.f1.f2, .slice A8 o.f4.f1.f3.length c8, .slice A9 o.f4.f2.length c9, .slice A10 o.f5.length c10, .slice A11 o.f6.length c11, .int .i64 o.f7.f0, .slice A13 o.f7.f1.length c13] 47 (0, 0))) := (u2.block wr.heap.size (blk_lt HXB.out) HFB.out.1).trans HXB.out
                       have y2 : w2.cell? ⟨wr.heap.size, 2, none⟩ = some (.int .i64 o.f2) := blk_at HX2.out 2 rfl
                       clear h2 u2 hp2 hbk)
                    | (go_at_call 15; refine (num15 _ _).mono ?_; rintro e w' ⟨rfl, rfl⟩))
            go_quiet (fail)
            go_wp2_with (fail)
            go_meet
            refine ⟨_, v, ob2, ov, by rfl, H2.out.below (pw_below_drewN (Below.refl _ _) _), HVR.out.took_not o.f2 o.f4 HWHY.out, (HF.out.took _ _).mono ?_, HVF.out.mono ?_⟩
            all_goals (
              have := HST.out
              have : 1 ≤ partsO o := by unfold partsO partsR; omega
              omega)
        have HHE := Lib.hid hhe
        clear hhe
        obtain ⟨i1, i2⟩ := HTH2.out
        have j1 : decide (o.f2 < 0) = false := by simpa using i1
        have j2 : decide ((n : Int) ≤ o.f2) = false := there_le HTH.out
        rcases hco : v.copied with _ | _
        · have HCO := Lib.hid hco
          clear hco
          as_aux_lemma =>
            have HTE : Hid (b.tookE o.f2 = 0) := tookE_ok HVR.out HTH.out HHE.out
            have HWHY : Hid (b.tookE o.f2 ≠ 0 ∨ v.copied = false ∨ v.shut o.f2.toNat = true) := .inr (.inl HCO.out)
            go_wp2_with (first
                    | (go_at_call 18; obtain ⟨gp, gl, vc, vd, lw, hbk⟩ := HX.out.bk; refine (took18 hbk HX.out.bl.size o.f2 o.f4 A8 c8 (HX.out.awayB HC8.out) HL8.out A9 c9 (HX.out.awayB HC9.out) HL9.out HU.out.1 (fun i => by have := HLN.out i; omega)).mono ?_
                       rintro e w2 ⟨he, hp2⟩
                       rw [HTE.out] at he
                       subst he
                       obtain ⟨ob2, h2, u2⟩ := HX.out.book hp2
                       have H2 := Lib.hid h2
                       have HX2 : Hid (w2.heap[wr.heap.size]? = some (.cells #[.int .i64 o.f0, .int .i64 o.f1, .int .i64 o.f2, .int .i64 o.f3, .string o.f4.f0, .int .i64 o.f4.f1.f0, .int .i64 o.f4.f1.f1, .string o.f4.f1.f2, .slice A8 o.f4.f1.f3.length c8, .slice A9 o.f4.f2.length c9, .slice A10 o.f5.length c10, .slice A11 o.f6.length c11, .int .i64 o.f7.f0, .slice A13 o.f7.f1.length c13] 47 (0, 0))) := (u2.block wr.heap.size (blk_lt HXB.out) HFB.out.1).trans HXB.out
                       have y2 : w2.cell? ⟨wr.heap.size, 2, none⟩ = some (.int .i64 o.f2) := blk_at HX2.out 2 rfl
                       obtain ⟨va2, vp2, lv2, hv2⟩ := h2.vw
                       have c1 : w2.cell? ⟨gv, 1, none⟩ = some (.bool v.copied) := blk_at hv2.hb 1 rfl
                       rw [HCO.out] at c1
                       clear h2 u2 hp2 hbk)
                    | (go_at_call 15; refine (num15 _ _).mono ?_; rintro e w' ⟨rfl, rfl⟩))
            go_quiet (fail)
            go_wp2_with (fail)
            go_meet
            refine ⟨_, v, ob2, ov, by rfl, H2.out.below (pw_below_drewN (Below.refl _ _) _), HVR.out.took_not o.f2 o.f4 HWHY.out, (HF.out.took _ _).mono ?_, HVF.out.mono ?_⟩
            all_goals (
              have := HST.out
              have : 1 ≤ partsO o := by unfold partsO partsR; omega
              omega)
        have HCO := Lib.hid hco
        clear hco
        rcases hsh : v.shut o.f2.toNat with _ | _
        rotate_left
        · have HSH := Lib.hid hsh
          clear hsh
          as_aux_lemma =>
            have HTE : Hid (b.tookE o.f2 = 0) := tookE_ok HVR.out HTH.out HHE.out
            have HWHY : Hid (b.tookE o.f2 ≠ 0 ∨ v.copied = false ∨ v.shut o.f2.toNat = true) := .inr (.inr HSH.out)
            go_wp2_with (first
                    | (go_at_call 18; obtain ⟨gp, gl, vc, vd, lw, hbk⟩ := HX.out.bk; refine (took18 hbk HX.out.bl.size o.f2 o.f4 A8 c8 (HX.out.awayB HC8.out) HL8.out A9 c9 (HX.out.awayB HC9.out) HL9.out HU.out.1 (fun i => by have := HLN.out i; omega)).mono ?_
                       rintro e w2 ⟨he, hp2⟩
                       rw [HTE.out] at he
                       subst he
                       obtain ⟨ob2, h2, u2⟩ := HX.out.book hp2
                       have H2 := Lib.hid h2
                       have HX2 : Hid (w2.heap[wr.heap.size]? = some (.cells #[.int .i64 o.f0, .int .i64 o.f1, .int .i64 o.f2, .int .i64 o.f3, .string o.f4.f0, .int .i64 o.f4.f1.f0, .int .i64 o.f4.f1.f1, .string o.f4.f1.f2, .slice A8 o.f4.f1.f3.length c8, .slice A9 o.f4.f2.length c9, .slice A10 o.f5.length c10, .slice A11 o.f6.length c11, .int .i64 o.f7.f0, .slice A13 o.f7.f1.length c13] 47 (0, 0))) := (u2.block wr.heap.size (blk_lt HXB.out) HFB.out.1).trans HXB.out
                       have y2 : w2.cell? ⟨wr.heap.size, 2, none⟩ = some (.int .i64 o.f2) := blk_at HX2.out 2 rfl
                       obtain ⟨va2, vp2, lv2, hv2⟩ := h2.vw
                       have c1 : w2.cell? ⟨gv, 1, none⟩ = some (.bool v.copied) := blk_at hv2.hb 1 rfl
                       rw [HCO.out] at c1
                       have cs := hv2.shutc o.f2.toNat (by have := HTH2.out; omega)
                       rw [HSH.out] at cs
                       clear h2 u2 hp2 hbk)
                    | (go_at_call 15; refine (num15 _ _).mono ?_; rintro e w' ⟨rfl, rfl⟩))
            go_quiet (fail)
            go_wp2_with (fail)
            go_meet
            refine ⟨_, v, ob2, ov, by rfl, H2.out.below (pw_below_drewN (Below.refl _ _) _), HVR.out.took_not o.f2 o.f4 HWHY.out, (HF.out.took _ _).mono ?_, HVF.out.mono ?_⟩
            all_goals (
              have := HST.out
              have : 1 ≤ partsO o := by unfold partsO partsR; omega
              omega)
        have HSH := Lib.hid hsh
        clear hsh
        have HTE : Hid (b.tookE o.f2 = 0) := tookE_ok HVR.out HTH.out HHE.out
        go_wp2_with (first
                | (go_at_call 18; obtain ⟨gp, gl, vc, vd, lw, hbk⟩ := HX.out.bk; refine (took18 hbk HX.out.bl.size o.f2 o.f4 A8 c8 (HX.out.awayB HC8.out) HL8.out A9 c9 (HX.out.awayB HC9.out) HL9.out HU.out.1 (fun i => by have := HLN.out i; omega)).mono ?_
                   rintro e w2 ⟨he, hp2⟩
                   rw [HTE.out] at he
                   subst he
                   obtain ⟨ob2, h2, u2⟩ := HX.out.book hp2
                   have H2 := Lib.hid h2
                   have HX2 : Hid (w2.heap[wr.heap.size]? = some (.cells #[.int .i64 o.f0, .int .i64 o.f1, .int .i64 o.f2, .int .i64 o.f3, .string o.f4.f0, .int .i64 o.f4.f1.f0, .int .i64 o.f4.f1.f1, .string o.f4.f1.f2, .slice A8 o.f4.f1.f3.length c8, .slice A9 o.f4.f2.length c9, .slice A10 o.f5.length c10, .slice A11 o.f6.length c11, .int .i64 o.f7.f0, .slice A13 o.f7.f1.length c13] 47 (0, 0))) := (u2.block wr.heap.size (blk_lt HXB.out) HFB.out.1).trans HXB.out
                   have y2 : w2.cell? ⟨wr.heap.size, 2, none⟩ = some (.int .i64 o.f2) := blk_at HX2.out 2 rfl
                   obtain ⟨va2, vp2, lv2, hv2⟩ := h2.vw
                   have c1 : w2.cell? ⟨gv, 1, none⟩ = some (.bool v.copied) := blk_at hv2.hb 1 rfl
                   rw [HCO.out] at c1
                   have cs := hv2.shutc o.f2.toNat (by have := HTH2.out; omega)
                   rw [HSH.out] at cs
                   clear h2 u2 hp2 hbk)
                | (go_at_call 15; refine (num15 _ _).mono ?_; rintro e w' ⟨rfl, rfl⟩))
        go_quiet (fail)
        go_upto_region 20 with (fail)
        clear c1 cs y2
        refine wp_gen (fun W => Hid (Below w2.heap.size w2 W)) (Lib.hid (pw_below_drewN (Below.refl _ _) _)) ?_
        intro W5 HB5
        have H5 : Hid (HV w W5 ob2 ov gb gv _ v) := H2.out.below HB5.out
        have HX5 : Hid (W5.heap[wr.heap.size]? = some (.cells #[.int .i64 o.f0, .int .i64 o.f1, .int .i64 o.f2, .int .i64 o.f3, .string o.f4.f0, .int .i64 o.f4.f1.f0, .int .i64 o.f4.f1.f1, .string o.f4.f1.f2, .slice A8 o.f4.f1.f3.length c8, .slice A9 o.f4.f2.length c9, .slice A10 o.f5.length c10, .slice A11 o.f6.length c11, .int .i64 o.f7.f0, .slice A13 o.f7.f1.length c13] 47 (0, 0))) := (HB5.out.block _ (blk_lt HX2.out)).trans HX2.out
        obtain ⟨va5, vp5, lv5, hv5⟩ := H5.out.vw
        have hbs5 := H5.out.bl.size
        have hp4 : o.f2.toNat < 4 := by have := HTH2.out; omega
        obtain ⟨vl, hvl⟩ : ∃ vl, lv5 o.f2.toNat = vl := ⟨_, rfl⟩
        obtain ⟨xl, hxl⟩ : ∃ xl, v.logs.getD o.f2.toNat [] = xl := ⟨_, rfl⟩
        have HLV := Lib.hid hvl
        have HXL := Lib.hid hxl
        have HVl : Hid (W5.cell? ⟨gv, 9 + o.f2.toNat, none⟩ = some vl) := by rw [← hvl]; exact Lib.hid (hv5.logc _ hp4)
        have HRp : Hid (Kd.R k45 45 W5 w.heap.size (fun k => ov k = 6 + o.f2.toNat) vl xl) := by rw [← hvl, ← hxl]; exact Lib.hid (hv5.rl _ hp4)
        have HLX : Hid (xl.length ≤ 1000000) := by rw [← hxl]; have h1 := HVF.out o.f2.toNat; have h2 := HPT.out; exact Lib.hid (by omega)
        have HX19 : Hid (∀ W, Below W5.heap.size W5 W → Calls Try.prog 19 #[.agg #[.string o.f4.f0, .int .i64 o.f4.f1.f0, .int .i64 o.f4.f1.f1, .string o.f4.f1.f2, .slice A8 o.f4.f1.f3.length c8, .slice A9 o.f4.f2.length c9]] W fun e w' => ∃ v4 v5, e = .returned (.agg #[.string o.f4.f0, .int .i64 o.f4.f1.f0, .int .i64 o.f4.f1.f1, .string o.f4.f1.f2, v4, v5]) ∧ Hid (Kd.R k42 42 w' W.heap.size (fun _ => True) v4 o.f4.f1.f3) ∧ Hid (Kd.R (Kd.int .i64) 3 w' W.heap.size (fun _ => True) v5 o.f4.f2) ∧ Hid (Below W.heap.size W w')) := fun W hW =>
          copyRecord19 o.f4 A8 c8 A9 c9 W (Kd.C_below HC8.out (H5.out.bl.trans (hW.mono H5.out.bl.size))) HL8.out (Kd.C_below HC9.out (H5.out.bl.trans (hW.mono H5.out.bl.size))) HL9.out HU.out.1
        clear hvl hxl
        refine start_ (n := 19) (S := (fun w' => w'.cell? ⟨gv, 9 + o.f2.toNat, none⟩ = some vl ∧ w'.cell? ⟨wr.heap.size, 2, none⟩ = some (.int .i64 o.f2) ∧ w'.cell? ⟨wr.heap.size, 4, none⟩ = some (.string o.f4.f0) ∧ w'.cell? ⟨wr.heap.size, 5, none⟩ = some (.int .i64 o.f4.f1.f0) ∧ w'.cell? ⟨wr.heap.size, 6, none⟩ = some (.int .i64 o.f4.f1.f1) ∧ w'.cell? ⟨wr.heap.size, 7, none⟩ = some (.string o.f4.f1.f2) ∧ w'.cell? ⟨wr.heap.size, 8, none⟩ = some (.slice A8 o.f4.f1.f3.length c8) ∧ w'.cell? ⟨wr.heap.size, 9, none⟩ = some (.slice A9 o.f4.f2.length c9))) (ds := [18]) #[false, false, false, false, false, false, false, false, false, false, false, false, false, false, false, false, false, false, false] (by kernel_rfl) rfl rfl ⟨(show W5.drew.cell? _ = _ from HVl.out), (show W5.drew.cell? _ = _ from blk_at HX5.out 2 rfl), (show W5.drew.cell? _ = _ from blk_at HX5.out 4 rfl), (show W5.drew.cell? _ = _ from blk_at HX5.out 5 rfl), (show W5.drew.cell? _ = _ from blk_at HX5.out 6 rfl), (show W5.drew.cell? _ = _ from blk_at HX5.out 7 rfl), (show W5.drew.cell? _ = _ from blk_at HX5.out 8 rfl), (show W5.drew.cell? _ = _ from blk_at HX5.out 9 rfl)⟩ (fun hHeld => ?_)
        have HBo : Hid (Below W5.heap.size W5 W5.drew) := (Below.refl _ _).drew
        generalize W5.drew = W at hHeld HBo ⊢
        refine pure_ (i := 0) (N := some 123) (v := ?_) (a' := ?_) #[true, false, false, false, false, false, false, false, false, false, false, false, false, false, false, false, false, false, false] rfl rfl (by kernel_rfl) (fun _ _ _ h => h) (Or.inl ⟨by rfl, ?_⟩) ?_ ?_
        rotate_left
        · intro w'
          go_simp
          with_reducible rfl
        rotate_left
        · simp only [Act.put, List.setIfInBounds_toArray, List.set_cons_zero, List.set_cons_succ]
          rfl
        refine pure_ (i := 1) (N := some 124) (v := ?_) (a' := ?_) #[true, true, false, false, false, false, false, false, false, false, false, false, false, false, false, false, false, false, false] rfl rfl (by kernel_rfl) (fun _ _ _ h => h) (Or.inl ⟨by rfl, ?_⟩) ?_ ?_
        rotate_left
        · intro w'
          go_simp
          with_reducible rfl
        rotate_left
        · simp only [Act.put, List.setIfInBounds_toArray, List.set_cons_zero, List.set_cons_succ]
          rfl
        refine take_ (i := 2) (N := some 125) (v := ?_) (a' := ?_) #[true, true, true, false, false, false, false, false, false, false, false, false, false, false, false, false, false, false, false] rfl rfl (by kernel_rfl) (fun _ _ _ h => h) (Or.inl ⟨by rfl, ?_⟩) hHeld ?_ ?_
        rotate_left
        · rintro w' ⟨s0, s1, s2, s3, s4, s5, s6, s7⟩
          go_simp
          with_reducible rfl
        rotate_left
        · simp only [Act.put, List.setIfInBounds_toArray, List.set_cons_zero, List.set_cons_succ]
          rfl
        refine pure_ (i := 3) (N := some 126) (v := ?_) (a' := ?_) #[true, true, true, true, false, false, false, false, false, false, false, false, false, false, false, false, false, false, false] rfl rfl (by kernel_rfl) (fun _ _ _ h => h) (Or.inl ⟨by rfl, ?_⟩) ?_ ?_
        rotate_left
        · intro w'
          go_simp
          with_reducible rfl
        rotate_left
        · simp only [Act.put, List.setIfInBounds_toArray, List.set_cons_zero, List.set_cons_succ]
          rfl
        refine pure_ (i := 4) (N := some 127) (v := ?_) (a' := ?_) #[true, true, true, true, true, false, false, false, false, false, false, false, false, false, false, false, false, false, false] rfl rfl (by kernel_rfl) (fun _ _ _ h => h) (Or.inl ⟨by rfl, ?_⟩) ?_ ?_
        rotate_left
        · intro w'
          go_simp
          with_reducible rfl
        rotate_left
        · simp only [Act.put, List.setIfInBounds_toArray, List.set_cons_zero, List.set_cons_succ]
          rfl
        refine take_ (i := 5) (N := some 128) (v := ?_) (a' := ?_) #[true, true, true, true, true, true, false, false, false, false, false, false, false, false, false, false, false, false, false] rfl rfl (by kernel_rfl) (fun _ _ _ h => h) (Or.inl ⟨by rfl, ?_⟩) hHeld ?_ ?_
        rotate_left
        · rintro w' ⟨s0, s1, s2, s3, s4, s5, s6, s7⟩
          go_simp
          with_reducible rfl
        rotate_left
        · simp only [Act.put, List.setIfInBounds_toArray, List.set_cons_zero, List.set_cons_succ]
          rfl
        refine pure_ (i := 6) (N := some 129) (v := ?_) (a' := ?_) #[true, true, true, true, true, true, true, false, false, false, false, false, false, false, false, false, false, false, false] rfl rfl (by kernel_rfl) (fun _ _ _ h => h) (Or.inl ⟨by rfl, ?_⟩) ?_ ?_
        rotate_left
        · intro w'
          go_simp
          with_reducible rfl
        rotate_left
        · simp only [Act.put, List.setIfInBounds_toArray, List.set_cons_zero, List.set_cons_succ]
          rfl
        refine pure_ (i := 7) (N := some 130) (v := ?_) (a' := ?_) #[true, true, true, true, true, true, true, true, false, false, false, false, false, false, false, false, false, false, false] rfl rfl (by kernel_rfl) (fun _ _ _ h => h) (Or.inl ⟨by rfl, ?_⟩) ?_ ?_
        rotate_left
        · intro w'
          go_simp
          with_reducible rfl
        rotate_left
        · simp only [Act.put, List.setIfInBounds_toArray, List.set_cons_zero, List.set_cons_succ]
          rfl
        refine pure_ (i := 8) (N := some 131) (v := ?_) (a' := ?_) #[true, true, true, true, true, true, true, true, true, false, false, false, false, false, false, false, false, false, false] rfl rfl (by kernel_rfl) (fun _ _ _ h => h) (Or.inl ⟨by rfl, ?_⟩) ?_ ?_
        rotate_left
        · intro w'
          go_simp
          with_reducible rfl
        rotate_left
        · simp only [Act.put, List.setIfInBounds_toArray, List.set_cons_zero, List.set_cons_succ]
          rfl
        refine take_ (i := 9) (N := some 132) (v := ?_) (a' := ?_) #[true, true, true, true, true, true, true, true, true, true, false, false, false, false, false, false, false, false, false] rfl rfl (by kernel_rfl) (fun _ _ _ h => h) (Or.inl ⟨by rfl, ?_⟩) hHeld ?_ ?_
        rotate_left
        · rintro w' ⟨s0, s1, s2, s3, s4, s5, s6, s7⟩
          go_simp
          with_reducible rfl
        rotate_left
        · simp only [Act.put, List.setIfInBounds_toArray, List.set_cons_zero, List.set_cons_succ]
          rfl
        refine pure_ (i := 10) (N := some 133) (v := ?_) (a' := ?_) #[true, true, true, true, true, true, true, true, true, true, true, false, false, false, false, false, false, false, false] rfl rfl (by kernel_rfl) (fun _ _ _ h => h) (Or.inl ⟨by rfl, ?_⟩) ?_ ?_
        rotate_left
        · intro w'
          go_simp
          with_reducible rfl
        rotate_left
        · simp only [Act.put, List.setIfInBounds_toArray, List.set_cons_zero, List.set_cons_succ]
          rfl
        refine take_ (i := 11) (N := some 134) (v := ?_) (a' := ?_) #[true, true, true, true, true, true, true, true, true, true, true, true, false, false, false, false, false, false, false] rfl rfl (by kernel_rfl) (fun _ _ _ h => h) (Or.inl ⟨by rfl, ?_⟩) hHeld ?_ ?_
        rotate_left
        · rintro w' ⟨s0, s1, s2, s3, s4, s5, s6, s7⟩
          go_simp
          with_reducible rfl
        rotate_left
        · simp only [Act.put, List.setIfInBounds_toArray, List.set_cons_zero, List.set_cons_succ]
          rfl
        refine pure_ (i := 15) (N := some 138) (v := ?_) (a' := ?_) #[true, true, true, true, true, true, true, true, true, true, true, true, false, false, false, true, false, false, false] rfl rfl (by kernel_rfl) (fun _ _ _ h => h) (Or.inl ⟨by rfl, ?_⟩) ?_ ?_
        rotate_left
        · intro w'
          go_simp
          with_reducible rfl
        rotate_left
        · simp only [Act.put, List.setIfInBounds_toArray, List.set_cons_zero, List.set_cons_succ]
          rfl
        refine pure_ (i := 16) (N := some 139) (v := ?_) (a' := ?_) #[true, true, true, true, true, true, true, true, true, true, true, true, false, false, false, true, true, false, false] rfl rfl (by kernel_rfl) (fun _ _ _ h => h) (Or.inl ⟨by rfl, ?_⟩) ?_ ?_
        rotate_left
        · intro w'
          go_simp
          with_reducible rfl
        rotate_left
        · simp only [Act.put, List.setIfInBounds_toArray, List.set_cons_zero, List.set_cons_succ]
          rfl
        refine one_ (i := 12) (N := some 135) #[true, true, true, true, true, true, true, true, true, true, true, true, true, false, false, true, true, false, false] rfl rfl (by kernel_rfl) (by decide) (fun K hK => ?_)
        refine goes_ Try.func19 (by kernel_rfl) rfl #[.agg #[.string o.f4.f0, .int .i64 o.f4.f1.f0, .int .i64 o.f4.f1.f1, .string o.f4.f1.f2, .slice A8 o.f4.f1.f3.length c8, .slice A9 o.f4.f2.length c9]] (by rfl) rfl rfl (by simp only [List.map_toArray, List.map_cons, List.map_nil]; rfl) ?_
        refine (HX19.out W HBo.out).mono ?_
        rintro e w3 ⟨u4, u5, rfl, hu4, hu5, hb3⟩
        refine ⟨_, rfl, ?_⟩
        obtain ⟨B4, d4, rfl⟩ := Kd.R_slice hu4.out
        obtain ⟨B5, d5, rfl⟩ := Kd.R_slice hu5.out
        refine hK.out _ _ ⟨pw_cell_below hb3.out hHeld.1, pw_cell_below hb3.out hHeld.2.1, pw_cell_below hb3.out hHeld.2.2.1, pw_cell_below hb3.out hHeld.2.2.2.1, pw_cell_below hb3.out hHeld.2.2.2.2.1, pw_cell_below hb3.out hHeld.2.2.2.2.2.1, pw_cell_below hb3.out hHeld.2.2.2.2.2.2.1, pw_cell_below hb3.out hHeld.2.2.2.2.2.2.2⟩ (fun hHeld => ?_)
        clear hK K
        refine norm_ (a' := ?_) ?_ ?_
        rotate_left
        · show Act.put _ (some 135) _ = _
          simp only [Act.put, List.setIfInBounds_toArray, List.set_cons_zero, List.set_cons_succ]
          rfl
        refine one_ (i := 13) (N := some 136) #[true, true, true, true, true, true, true, true, true, true, true, true, true, true, false, true, true, false, false] rfl rfl (by kernel_rfl) (by decide) (fun K hK => ?_)
        refine value_ (w1 := ?_) (v := ?_) (by rfl) rfl ?_ ?_
        rotate_left 2
        · go_simp
          constructor
          · rfl
          · rfl
        refine hK.out _ _ ⟨pw_cell_below ((Below.refl _ _).alloc (Nat.le_refl _) _) hHeld.1, pw_cell_below ((Below.refl _ _).alloc (Nat.le_refl _) _) hHeld.2.1, pw_cell_below ((Below.refl _ _).alloc (Nat.le_refl _) _) hHeld.2.2.1, pw_cell_below ((Below.refl _ _).alloc (Nat.le_refl _) _) hHeld.2.2.2.1, pw_cell_below ((Below.refl _ _).alloc (Nat.le_refl _) _) hHeld.2.2.2.2.1, pw_cell_below ((Below.refl _ _).alloc (Nat.le_refl _) _) hHeld.2.2.2.2.2.1, pw_cell_below ((Below.refl _ _).alloc (Nat.le_refl _) _) hHeld.2.2.2.2.2.2.1, pw_cell_below ((Below.refl _ _).alloc (Nat.le_refl _) _) hHeld.2.2.2.2.2.2.2⟩ (fun hHeld => ?_)
        clear hK K
        refine norm_ (a' := ?_) ?_ ?_
        rotate_left
        · show Act.put _ (some 136) _ = _
          simp only [Act.put, List.setIfInBounds_toArray, List.set_cons_zero, List.set_cons_succ]
          rfl
        refine one_ (i := 14) (N := some 137) #[true, true, true, true, true, true, true, true, true, true, true, true, true, true, true, true, true, false, false] rfl rfl (by kernel_rfl) (by decide) (fun K hK => ?_)
        refine Kd.R_append_step k45 (w0 := w3) w.heap.size (by rfl) (.tmp 132) (.tmp 136) 35 45 (.agg #[.string ⟨#[]⟩, .int .i64 0, .int .i64 0, .string ⟨#[]⟩, .slice none 0 0, .slice none 0 0]) 96 rfl Try.underlying35 info45 rfl (by decide) (by decide) vl xl o.f4 _ (fun k => ov k = 6 + o.f2.toNat ∨ W5.heap.size ≤ k) (fun k => W.heap.size ≤ k) rfl rfl ?hp ?hok ?hfr ?hO (Below.refl _ _) ?hS ?hl ?_
        case hp => exact k45_mkM _ _ _ o.f4 (R_newer hu4.out (Nat.le_trans hbs5 HBo.out.size)) (R_newer hu5.out (Nat.le_trans hbs5 HBo.out.size))
        case hok => exact fun k hk => ⟨.inr (Nat.le_trans HBo.out.size hk), fun he => by have := Kd.R_lt HRp.out k he.symm; have := HBo.out.size; omega⟩
        case hfr => exact fun k hk => .inr (Nat.le_trans HBo.out.size (Nat.le_trans hb3.out.size hk))
        case hO => exact Kd.R_below (Kd.R_below (Kd.R_mono HRp.out (fun _ hk => .inl hk)) HBo.out) hb3.out
        case hS => exact Nat.le_trans hbs5 (Nat.le_trans HBo.out.size hb3.out.size)
        case hl => have := HLX.out; omega
        intro v1 w4 hO4 hB4 hg4 hat4
        have HA := Lib.hid (hv5.setLog hbs5 o.f2.toNat hp4 (HBo.out.trans (hb3.out.mono HBo.out.size)) (by rw [HLV.out]; exact hg4) (by rw [HXL.out]; exact hO4))
        obtain ⟨A1, m1, c1', rfl⟩ := R_sliced hO4
        have hlv4 : w4.cell? ⟨gv, 9 + o.f2.toNat, none⟩ = some vl := by
          rw [← HLV.out]
          exact logc_blk HA.out.1 _ hp4
        have hf4 : w4.frozen? ⟨gv, 9 + o.f2.toNat, none⟩ = false := blk_frozen HA.out.1 _
        have hbx4 : w4.heap[wr.heap.size]? = some (.cells #[.int .i64 o.f0, .int .i64 o.f1, .int .i64 o.f2, .int .i64 o.f3, .string o.f4.f0, .int .i64 o.f4.f1.f0, .int .i64 o.f4.f1.f1, .string o.f4.f1.f2, .slice A8 o.f4.f1.f3.length c8, .slice A9 o.f4.f2.length c9, .slice A10 o.f5.length c10, .slice A11 o.f6.length c11, .int .i64 o.f7.f0, .slice A13 o.f7.f1.length c13] 47 (0, 0)) := (hg4.block _ (Nat.lt_of_lt_of_le (blk_lt HX5.out) (Nat.le_trans HBo.out.size hb3.out.size)) (fun e => by
          have h1 := HRp.out
          have h2 := h1.1 _ e.symm
          have h3 : ov wr.heap.size = 6 + o.f2.toNat := h2
          have h4 : ov wr.heap.size = 0 := HFB.out.2
          omega)).trans ((hb3.out.block _ (Nat.lt_of_lt_of_le (blk_lt HX5.out) HBo.out.size)).trans ((HBo.out.block _ (blk_lt HX5.out)).trans HX5.out))
        clear hO4 hB4 hg4 hat4
        refine hK.out _ _ ⟨hlv4, blk_at hbx4 2 rfl, blk_at hbx4 4 rfl, blk_at hbx4 5 rfl, blk_at hbx4 6 rfl, blk_at hbx4 7 rfl, blk_at hbx4 8 rfl, blk_at hbx4 9 rfl⟩ (fun hHeld => ?_)
        clear hK K hbx4
        refine norm_ (a' := ?_) ?_ ?_
        rotate_left
        · show Act.put _ (some 137) _ = _
          simp only [Act.put, List.setIfInBounds_toArray, List.set_cons_zero, List.set_cons_succ]
          rfl
        refine pure_ (i := 17) (N := some 140) (v := ?_) (a' := ?_) #[true, true, true, true, true, true, true, true, true, true, true, true, true, true, true, true, true, true, false] rfl rfl (by kernel_rfl) (fun _ _ _ h => h) (Or.inl ⟨by rfl, ?_⟩) ?_ ?_
        rotate_left
        · intro w'
          go_simp
          with_reducible rfl
        rotate_left
        · simp only [Act.put, List.setIfInBounds_toArray, List.set_cons_zero, List.set_cons_succ]
          rfl
        refine last_ (i := 18) (N := none) #[true, true, true, true, true, true, true, true, true, true, true, true, true, true, true, true, true, true, true] rfl rfl (by kernel_rfl) (by decide) (fun K hK => ?_)
        refine skip_ (w1 := ?_) (by rfl) rfl ?_ ?_
        rotate_left
        · go_simp
          rfl
        refine hK.out _ _ ?_
        clear hK K hlv4 hf4
        refine done_ (by kernel_rfl) ?_
        clear hHeld
        go_wp2_with (fail)
        obtain ⟨ov6, h6, u6⟩ := H5.out.view ⟨_, ⟨_, _, _, HA.out.2.1⟩, HA.out.2.2⟩
        go_meet
        refine ⟨_, _, ob2, ov6, by rfl, h6, HVR.out.took_yes o.f2 o.f4 HTE.out HCO.out HSH.out, (HF.out.took _ _).mono ?_, (HVF.out.logged _ _).mono ?_⟩
        all_goals (
          have := HST.out
          have : 1 ≤ partsO o := by unfold partsO partsR; omega
          try simp only [List.length_cons, List.length_nil]
          omega)
      have k1' : (o.f0 == 1) = false := beq_false_of_ne k1
      clear k1
      by_cases k2 : o.f0 = 2
      · have k2' : (o.f0 == 2) = true := by simp [k2]
        clear k2
        rcases hth : there n o.f2 with _ | _
        · have HTH := Lib.hid hth
          clear hth
          as_aux_lemma =>
            have HTE : Hid (b.markE o.f2 o.f3 = 132) := markE_no HVR.out HTH.out
            have HMB : Hid (b.mark o.f2 o.f3 o.f5 o.f7 o.f6 = b ∧ b.markC o.f2 o.f3 o.f5 o.f7 o.f6 = false) := mark_bad (by rw [HTE.out]; decide) _ _ _
            have HCC : Hid (b.markC o.f2 o.f3 o.f5 o.f7 o.f6 = false) := HMB.out.2
            go_wp2_with (first
                    | (go_at_call 20; obtain ⟨gp, gl, vc, vd, lw, hbk⟩ := HX.out.bk; refine (mark20 hbk HX.out.bl.size o.f2 o.f3 o.f5 A10 c10 (HX.out.awayB HC10.out) HL10.out HU.out.2.2.1 o.f7 A13 c13 (HX.out.awayB HC13.out) HL13.out HU.out.2.1 o.f6 A11 c11 (HX.out.awayB HC11.out) HL11.out HU.out.2.2.2 (fun i => by have := HLN.out i; have := partsRs_len o.f5; have := HU.out.2.2.1; omega) (by rw [HF.out.m]; exact HM.out)).mono ?_
                       rintro e w2 ⟨he, hp2⟩
                       rw [HTE.out, HCC.out] at he
                       subst he
                       obtain ⟨ob2, h2, u2⟩ := HX.out.book hp2
                       have H2 := Lib.hid h2
                       have HX2 : Hid (w2.heap[wr.heap.size]? = some (.cells #[.int .i64 o.f0, .int .i64 o.f1, .int .i64 o.f2, .int .i64 o.f3, .string o.f4.f0, .int .i64 o.f4.f1.f0, .int .i64 o.f4.f1.f1, .string o.f4.f1.f2, .slice A8 o.f4.f1.f3.length c8, .slice A9 o.f4.f2.length c9, .slice A10 o.f5.length c10, .slice A11 o.f6.length c11, .int .i64 o.f7.f0, .slice A13 o.f7.f1.length c13] 47 (0, 0))) := (u2.block wr.heap.size (blk_lt HXB.out) HFB.out.1).trans HXB.out
                       clear h2 u2 hp2 hbk)
                    | (go_at_call 15; refine (num15 _ _).mono ?_; rintro e w' ⟨rfl, rfl⟩))
            go_meet
            refine ⟨b, v, ob2, ov, by rfl, HMB.out.1 ▸ H2.out, HVR.out, HF.out.mono ?_, HVF.out.mono ?_⟩
            all_goals (have := HST.out; omega)
        have HTH := Lib.hid hth
        clear hth
        have HTH2 : Hid (0 ≤ o.f2 ∧ o.f2 < 4) := there_lt HTH.out hn4
        by_cases b1 : o.f3 < 1 ∨ 9999 < o.f3
        · as_aux_lemma =>
            have HTE : Hid (b.markE o.f2 o.f3 = 133) := markE_bad HVR.out HTH.out b1
            have HMB : Hid (b.mark o.f2 o.f3 o.f5 o.f7 o.f6 = b ∧ b.markC o.f2 o.f3 o.f5 o.f7 o.f6 = false) := mark_bad (by rw [HTE.out]; decide) _ _ _
            have HCC : Hid (b.markC o.f2 o.f3 o.f5 o.f7 o.f6 = false) := HMB.out.2
            go_wp2_with (first
                    | (go_at_call 20; obtain ⟨gp, gl, vc, vd, lw, hbk⟩ := HX.out.bk; refine (mark20 hbk HX.out.bl.size o.f2 o.f3 o.f5 A10 c10 (HX.out.awayB HC10.out) HL10.out HU.out.2.2.1 o.f7 A13 c13 (HX.out.awayB HC13.out) HL13.out HU.out.2.1 o.f6 A11 c11 (HX.out.awayB HC11.out) HL11.out HU.out.2.2.2 (fun i => by have := HLN.out i; have := partsRs_len o.f5; have := HU.out.2.2.1; omega) (by rw [HF.out.m]; exact HM.out)).mono ?_
                       rintro e w2 ⟨he, hp2⟩
                       rw [HTE.out, HCC.out] at he
                       subst he
                       obtain ⟨ob2, h2, u2⟩ := HX.out.book hp2
                       have H2 := Lib.hid h2
                       have HX2 : Hid (w2.heap[wr.heap.size]? = some (.cells #[.int .i64 o.f0, .int .i64 o.f1, .int .i64 o.f2, .int .i64 o.f3, .string o.f4.f0, .int .i64 o.f4.f1.f0, .int .i64 o.f4.f1.f1, .string o.f4.f1.f2, .slice A8 o.f4.f1.f3.length c8, .slice A9 o.f4.f2.length c9, .slice A10 o.f5.length c10, .slice A11 o.f6.length c11, .int .i64 o.f7.f0, .slice A13 o.f7.f1.length c13] 47 (0, 0))) := (u2.block wr.heap.size (blk_lt HXB.out) HFB.out.1).trans HXB.out
                       clear h2 u2 hp2 hbk)
                    | (go_at_call 15; refine (num15 _ _).mono ?_; rintro e w' ⟨rfl, rfl⟩))
            go_meet
            refine ⟨b, v, ob2, ov, by rfl, HMB.out.1 ▸ H2.out, HVR.out, HF.out.mono ?_, HVF.out.mono ?_⟩
            all_goals (have := HST.out; omega)
        have b2 : ¬ o.f3 < 1 := fun h => b1 (.inl h)
        have b3 : ¬ 9999 < o.f3 := fun h => b1 (.inr h)
        clear b1
        rcases hhe : v.held o.f2 mode n with _ | _
        rotate_left
        · have HHE := Lib.hid hhe
          clear hhe
          as_aux_lemma =>
            have HTE : Hid (b.markE o.f2 o.f3 = 134) := markE_held HVR.out HTH.out b2 b3 HHE.out
            have HMB : Hid (b.mark o.f2 o.f3 o.f5 o.f7 o.f6 = b ∧ b.markC o.f2 o.f3 o.f5 o.f7 o.f6 = false) := mark_bad (by rw [HTE.out]; decide) _ _ _
            have HCC : Hid (b.markC o.f2 o.f3 o.f5 o.f7 o.f6 = false) := HMB.out.2
            go_wp2_with (first
                    | (go_at_call 20; obtain ⟨gp, gl, vc, vd, lw, hbk⟩ := HX.out.bk; refine (mark20 hbk HX.out.bl.size o.f2 o.f3 o.f5 A10 c10 (HX.out.awayB HC10.out) HL10.out HU.out.2.2.1 o.f7 A13 c13 (HX.out.awayB HC13.out) HL13.out HU.out.2.1 o.f6 A11 c11 (HX.out.awayB HC11.out) HL11.out HU.out.2.2.2 (fun i => by have := HLN.out i; have := partsRs_len o.f5; have := HU.out.2.2.1; omega) (by rw [HF.out.m]; exact HM.out)).mono ?_
                       rintro e w2 ⟨he, hp2⟩
                       rw [HTE.out, HCC.out] at he
                       subst he
                       obtain ⟨ob2, h2, u2⟩ := HX.out.book hp2
                       have H2 := Lib.hid h2
                       have HX2 : Hid (w2.heap[wr.heap.size]? = some (.cells #[.int .i64 o.f0, .int .i64 o.f1, .int .i64 o.f2, .int .i64 o.f3, .string o.f4.f0, .int .i64 o.f4.f1.f0, .int .i64 o.f4.f1.f1, .string o.f4.f1.f2, .slice A8 o.f4.f1.f3.length c8, .slice A9 o.f4.f2.length c9, .slice A10 o.f5.length c10, .slice A11 o.f6.length c11, .int .i64 o.f7.f0, .slice A13 o.f7.f1.length c13] 47 (0, 0))) := (u2.block wr.heap.size (blk_lt HXB.out) HFB.out.1).trans HXB.out
                       clear h2 u2 hp2 hbk)
                    | (go_at_call 15; refine (num15 _ _).mono ?_; rintro e w' ⟨rfl, rfl⟩))
            go_meet
            refine ⟨b, v, ob2, ov, by rfl, HMB.out.1 ▸ H2.out, HVR.out, HF.out.mono ?_, HVF.out.mono ?_⟩
            all_goals (have := HST.out; omega)
        have HHE := Lib.hid hhe
        clear hhe
        obtain ⟨i1, i2⟩ := HTH2.out
        have j1 : decide (o.f2 < 0) = false := by simpa using i1
        have j2 : decide ((n : Int) ≤ o.f2) = false := there_le HTH.out
        have HTE : Hid (b.markE o.f2 o.f3 = 0) := markE_ok HVR.out HTH.out b2 b3 HHE.out
        obtain ⟨c, hcc⟩ : ∃ c, b.markC o.f2 o.f3 o.f5 o.f7 o.f6 = c := ⟨_, rfl⟩
        have HCC := Lib.hid hcc
        clear hcc b2 b3
        have HMR : Hid (VR (b.mark o.f2 o.f3 o.f5 o.f7 o.f6) (v.sees o.f2 o.f3 o.f5 o.f7 o.f6 c mode) mode back n) := HCC.out ▸ HVR.out.mark HLG.out.1 HLG.out.2.2.1 HLG.out.2.2.2.2 o.f2 o.f3 o.f5 o.f7 o.f6 HTE.out
        as_aux_lemma =>
          go_wp2_with (first
                  | (go_at_call 20; obtain ⟨gp, gl, vc, vd, lw, hbk⟩ := HX.out.bk; refine (mark20 hbk HX.out.bl.size o.f2 o.f3 o.f5 A10 c10 (HX.out.awayB HC10.out) HL10.out HU.out.2.2.1 o.f7 A13 c13 (HX.out.awayB HC13.out) HL13.out HU.out.2.1 o.f6 A11 c11 (HX.out.awayB HC11.out) HL11.out HU.out.2.2.2 (fun i => by have := HLN.out i; have := partsRs_len o.f5; have := HU.out.2.2.1; omega) (by rw [HF.out.m]; exact HM.out)).mono ?_
                     rintro e w2 ⟨he, hp2⟩
                     rw [HTE.out, HCC.out] at he
                     subst he
                     obtain ⟨ob2, h2, u2⟩ := HX.out.book hp2
                     have H2 := Lib.hid h2
                     have HX2 : Hid (w2.heap[wr.heap.size]? = some (.cells #[.int .i64 o.f0, .int .i64 o.f1, .int .i64 o.f2, .int .i64 o.f3, .string o.f4.f0, .int .i64 o.f4.f1.f0, .int .i64 o.f4.f1.f1, .string o.f4.f1.f2, .slice A8 o.f4.f1.f3.length c8, .slice A9 o.f4.f2.length c9, .slice A10 o.f5.length c10, .slice A11 o.f6.length c11, .int .i64 o.f7.f0, .slice A13 o.f7.f1.length c13] 47 (0, 0))) := (u2.block wr.heap.size (blk_lt HXB.out) HFB.out.1).trans HXB.out
                     have y0 : w2.cell? ⟨wr.heap.size, 0, none⟩ = some (.int .i64 o.f0) := blk_at HX2.out 0 rfl
                     have y1 : w2.cell? ⟨wr.heap.size, 1, none⟩ = some (.int .i64 o.f1) := blk_at HX2.out 1 rfl
                     have y2 : w2.cell? ⟨wr.heap.size, 2, none⟩ = some (.int .i64 o.f2) := blk_at HX2.out 2 rfl
                     have y3 : w2.cell? ⟨wr.heap.size, 3, none⟩ = some (.int .i64 o.f3) := blk_at HX2.out 3 rfl
                     have y4 : w2.cell? ⟨wr.heap.size, 4, none⟩ = some (.string o.f4.f0) := blk_at HX2.out 4 rfl
                     have y5 : w2.cell? ⟨wr.heap.size, 5, none⟩ = some (.int .i64 o.f4.f1.f0) := blk_at HX2.out 5 rfl
                     have y6 : w2.cell? ⟨wr.heap.size, 6, none⟩ = some (.int .i64 o.f4.f1.f1) := blk_at HX2.out 6 rfl
                     have y7 : w2.cell? ⟨wr.heap.size, 7, none⟩ = some (.string o.f4.f1.f2) := blk_at HX2.out 7 rfl
                     have y8 : w2.cell? ⟨wr.heap.size, 8, none⟩ = some (.slice A8 o.f4.f1.f3.length c8) := blk_at HX2.out 8 rfl
                     have y9 : w2.cell? ⟨wr.heap.size, 9, none⟩ = some (.slice A9 o.f4.f2.length c9) := blk_at HX2.out 9 rfl
                     have y10 : w2.cell? ⟨wr.heap.size, 10, none⟩ = some (.slice A10 o.f5.length c10) := blk_at HX2.out 10 rfl
                     have y11 : w2.cell? ⟨wr.heap.size, 11, none⟩ = some (.slice A11 o.f6.length c11) := blk_at HX2.out 11 rfl
                     have y12 : w2.cell? ⟨wr.heap.size, 12, none⟩ = some (.int .i64 o.f7.f0) := blk_at HX2.out 12 rfl
                     have y13 : w2.cell? ⟨wr.heap.size, 13, none⟩ = some (.slice A13 o.f7.f1.length c13) := blk_at HX2.out 13 rfl
                     clear h2 u2 hp2 hbk)
                  | (go_at_call 21; refine (sees21o H2.out.vw H2.out.bl.size o A8 c8 A9 c9 A10 c10 A11 c11 A13 c13 HTH2.out.1 HTH2.out.2 mode (H2.out.awayV HC10.out) HL10.out (H2.out.awayV HC11.out) HL11.out (H2.out.awayV HC13.out) HL13.out ⟨HU.out.2.1, HU.out.2.2.1, HU.out.2.2.2⟩ (fun i => by have := HVF.out i; have := HPT.out; omega) c).mono ?_
                     rintro e w4 ⟨rfl, hp4⟩
                     obtain ⟨ov2, h4, u4⟩ := H2.out.view hp4
                     have H4 := Lib.hid h4
                     clear h4 u4 hp4)
                  | (go_at_call 15; refine (num15 _ _).mono ?_; rintro e w' ⟨rfl, rfl⟩))
          go_meet
          refine ⟨_, _, ob2, ov2, by rfl, H4.out, HMR.out, (HF.out.mark _ _ _ _ _).mono ?_, (HVF.out.sees _ _ _ _ _ _ _).mono ?_⟩
          all_goals (
            have := HST.out
            have := partsRs_len o.f5
            unfold partsO at *
            omega)
      have k2' : (o.f0 == 2) = false := beq_false_of_ne k2
      clear k2
      by_cases k3 : o.f0 = 3
      · have k3' : (o.f0 == 3) = true := by simp [k3]
        clear k3
        rcases hhd : v.handed with _ | _
        · rcases hwh : v.whole n with _ | _
          · as_aux_lemma =>
              have HWH : Hid (v.whole n = false) := Lib.hid hwh
              have HHD : Hid (v.handed = false) := Lib.hid hhd
              have HRD : Hid (b.ready = false) := by rw [HVR.out.ready, hwh, hhd]; exact Lib.hid rfl
              clear hwh hhd
              go_wp2_with (first
                | (go_at_call 22; obtain ⟨gp, gl, vc, vd, lw, hbk⟩ := HX.out.bk; refine (part22 hbk).mono ?_
                   intro e w2 hq
                   unfold PartAns at hq
                   rw [if_neg (by rw [HRD.out]; simp)] at hq
                   obtain ⟨rfl, hp2⟩ := hq
                   obtain ⟨ob2, h2, u2⟩ := HX.out.book hp2
                   have H2 := Lib.hid h2
                   clear h2 u2 hp2 hbk)
                | (go_at_call 23; obtain ⟨va3, vp3, lv3, hv3⟩ := (H2.out.below ((Below.refl _ _).alloc (Nat.le_refl _) (.cells #[.int .i64 0, .slice none 0 0, .slice none 0 0, .slice none 0 0] 55))).vw; refine (whole23 hv3 n hn4).mono ?_
                   rintro e w3 ⟨rfl, hb3⟩
                   rw [HWH.out]
                   have H3 : Hid (HV w w3 ob2 ov gb gv _ v) := (H2.out.below ((Below.refl _ _).alloc (Nat.le_refl _) _)).below hb3.out
                   have hv4 := hv3.below hb3.out
                   have c13 : w3.cell? ⟨gv, 13, none⟩ = some (.bool v.handed) := blk_at hv4.hb 13 rfl
                   have z13 : w3.frozen? ⟨gv, 13, none⟩ = false := blk_frozen hv4.hb 13
                   rw [HHD.out] at c13
                   clear hb3
                   clear hv3 hv4))
              obtain ⟨ov2, h4⟩ := H3.out.hand false
              go_meet
              refine ⟨b, v, ob2, ov2, by rfl, HHD.out ▸ h4, HVR.out, HF.out.mono ?_, HVF.out.mono ?_⟩
              all_goals (have := HST.out; omega)
          as_aux_lemma =>
            have HWH : Hid (v.whole n = true) := Lib.hid hwh
            have HHD : Hid (v.handed = false) := Lib.hid hhd
            have HRD : Hid (b.ready = true) := by rw [HVR.out.ready, hwh, hhd]; exact Lib.hid rfl
            clear hwh hhd
            obtain ⟨s1, s2, s3, s4, s5, s6⟩ := HVR.out.part HRD.out
            have HS6 := Lib.hid s6
            have HS := Lib.hid (And.intro s1 (And.intro s2 (And.intro s3 (And.intro s4 s5))))
            clear s1 s2 s3 s4 s5 s6
            go_wp2_with (first
              | (go_at_call 22; obtain ⟨gp, gl, vc, vd, lw, hbk⟩ := HX.out.bk; refine (part22 hbk).mono ?_
                 intro e w2 hq
                 unfold PartAns at hq
                 rw [if_pos HRD.out] at hq
                 obtain ⟨ob3, pv, he, hb2, u2, vc2, gl2, vd2, lv2, hpv, hvc, hvd, hgl2, hS, hlv, hrows⟩ := hq
                 obtain ⟨s1, s2, s3, s4, s5⟩ := HS.out
                 rw [← s1] at hvc
                 rw [← s2] at hvd
                 obtain ⟨Ac, cc2, rfl⟩ := Kd.R_slice hvc
                 obtain ⟨Ad, cd2, rfl⟩ := Kd.R_slice hvd
                 rw [← s1, s3] at hpv
                 rw [← s5, hpv] at he
                 subst he
                 obtain ⟨ob2, h2, u3⟩ := HX.out.book (b' := b.handed) ⟨ob3, hb2, u2⟩
                 have H2 := Lib.hid h2
                 have HV1 := Lib.hid (Kd.R_reads' hvc).2.2
                 have HV2 := Lib.hid (Kd.R_reads' hvd).2.2
                 have HV3 : Hid (∀ W, Below w2.heap.size w2 W → Kd.C (Kd.slice 45 k45) W (some ⟨gl2, 0, none⟩) b.logs.length b.logs) := fun W hW => logs_readsV hgl2 hS hlv (by rw [s3]; omega) hrows (Upd.of_below (own := fun _ => 0) (own' := fun _ => 0) hW (fun _ _ => rfl)) (fun _ _ => rfl)
                 clear hb2 u2 u3 h2 hvc hvd hgl2 hS hlv hrows hpv hbk s1 s2 s3 s4 s5)
              | (go_at_call 23; obtain ⟨va3, vp3, lv3, hv3⟩ := (H2.out.below ((Below.refl _ _).alloc (Nat.le_refl _) (.cells #[.int .i64 v.st.f0, .slice Ac v.st.f1.length cc2, .slice (some ⟨gl2, 0, none⟩) n n, .slice Ad v.pend.length cd2] 55))).vw; refine (whole23 hv3 n hn4).mono ?_
                 rintro e w3 ⟨rfl, hb3⟩
                 rw [HWH.out]
                 have H3 : Hid (HV w w3 ob2 ov gb gv _ v) := (H2.out.below ((Below.refl _ _).alloc (Nat.le_refl _) _)).below hb3.out
                 have hv4 := hv3.below hb3.out
                 have c13 : w3.cell? ⟨gv, 13, none⟩ = some (.bool v.handed) := blk_at hv4.hb 13 rfl
                 have z13 : w3.frozen? ⟨gv, 13, none⟩ = false := blk_frozen hv4.hb 13
                 rw [HHD.out] at c13
                 have c0 : w3.cell? ⟨gv, 0, none⟩ = some (.int .i64 v.id) := blk_at hv4.hb 0 rfl
                 have HP3 : Hid (w3.heap[w2.heap.size]? = some (.cells #[.int .i64 v.st.f0, .slice Ac v.st.f1.length cc2, .slice (some ⟨gl2, 0, none⟩) n n, .slice Ad v.pend.length cd2] 55 (0, 0))) := (hb3.out.block _ (by rw [World.size_alloc]; omega)).trans (blk_new w2 _)
                 have HB3 : Hid (Below w2.heap.size w2 w3) := ((Below.refl _ _).alloc (Nat.le_refl _) _).trans (hb3.out.mono (by rw [World.size_alloc]; omega))
                 have p0 : w3.cell? ⟨w2.heap.size, 0, none⟩ = some (.int .i64 v.st.f0) := blk_at HP3.out 0 rfl
                 have p1 : w3.cell? ⟨w2.heap.size, 1, none⟩ = some (.slice Ac v.st.f1.length cc2) := blk_at HP3.out 1 rfl
                 have p2 : w3.cell? ⟨w2.heap.size, 2, none⟩ = some (.slice (some ⟨gl2, 0, none⟩) n n) := blk_at HP3.out 2 rfl
                 have p3 : w3.cell? ⟨w2.heap.size, 3, none⟩ = some (.slice Ad v.pend.length cd2) := blk_at HP3.out 3 rfl
                 clear hb3
                 clear hv3 hv4)
              | (go_at_call 24; refine (fits24 H3.out.vw n hn4 b.logs HS.out.2.2.1 HS.out.2.2.2.1 Ac cc2 (some ⟨gl2, 0, none⟩) n Ad cd2 (Kd.C_below HV1.out HB3.out) (HV3.out _ HB3.out) (Kd.C_below HV2.out HB3.out)).mono ?_
                 rintro e w4 ⟨rfl, hb4⟩
                 have H4 : Hid (HV w w4 ob2 ov gb gv _ v) := H3.out.below hb4.out
                 have q13 : w4.cell? ⟨gv, 13, none⟩ = some (.bool false) := pw_cell_below hb4.out c13
                 have r13 : w4.frozen? ⟨gv, 13, none⟩ = false := by obtain ⟨va5, vp5, lv5, hv5⟩ := H4.out.vw; exact blk_frozen hv5.hb 13
                 clear hb4 c13 z13))
            obtain ⟨ov2, h5⟩ := H4.out.hand true
            go_meet
            refine ⟨_, _, ob2, ov2, by rfl, h5, HS6.out, HF.out.handed.mono (Nat.zero_le _), HVF.out.mono ?_⟩
            have := HST.out
            omega
        rcases hwh : v.whole n with _ | _
        · as_aux_lemma =>
            have HWH : Hid (v.whole n = false) := Lib.hid hwh
            have HHD : Hid (v.handed = true) := Lib.hid hhd
            have HRD : Hid (b.ready = false) := by rw [HVR.out.ready, hwh, hhd]; exact Lib.hid rfl
            clear hwh hhd
            go_wp2_with (first
              | (go_at_call 22; obtain ⟨gp, gl, vc, vd, lw, hbk⟩ := HX.out.bk; refine (part22 hbk).mono ?_
                 intro e w2 hq
                 unfold PartAns at hq
                 rw [if_neg (by rw [HRD.out]; simp)] at hq
                 obtain ⟨rfl, hp2⟩ := hq
                 obtain ⟨ob2, h2, u2⟩ := HX.out.book hp2
                 have H2 := Lib.hid h2
                 clear h2 u2 hp2 hbk)
              | (go_at_call 23; obtain ⟨va3, vp3, lv3, hv3⟩ := (H2.out.below ((Below.refl _ _).alloc (Nat.le_refl _) (.cells #[.int .i64 0, .slice none 0 0, .slice none 0 0, .slice none 0 0] 55))).vw; refine (whole23 hv3 n hn4).mono ?_
                 rintro e w3 ⟨rfl, hb3⟩
                 rw [HWH.out]
                 have H3 : Hid (HV w w3 ob2 ov gb gv _ v) := (H2.out.below ((Below.refl _ _).alloc (Nat.le_refl _) _)).below hb3.out
                 have hv4 := hv3.below hb3.out
                 have c13 : w3.cell? ⟨gv, 13, none⟩ = some (.bool v.handed) := blk_at hv4.hb 13 rfl
                 have z13 : w3.frozen? ⟨gv, 13, none⟩ = false := blk_frozen hv4.hb 13
                 rw [HHD.out] at c13
                 clear hb3
                 clear hv3 hv4))
            obtain ⟨ov2, h4⟩ := H3.out.hand true
            go_meet
            refine ⟨b, v, ob2, ov2, by rfl, HHD.out ▸ h4, HVR.out, HF.out.mono ?_, HVF.out.mono ?_⟩
            all_goals (have := HST.out; omega)
        as_aux_lemma =>
          have HWH : Hid (v.whole n = true) := Lib.hid hwh
          have HHD : Hid (v.handed = true) := Lib.hid hhd
          have HRD : Hid (b.ready = false) := by rw [HVR.out.ready, hwh, hhd]; exact Lib.hid rfl
          clear hwh hhd
          go_wp2_with (first
            | (go_at_call 22; obtain ⟨gp, gl, vc, vd, lw, hbk⟩ := HX.out.bk; refine (part22 hbk).mono ?_
               intro e w2 hq
               unfold PartAns at hq
               rw [if_neg (by rw [HRD.out]; simp)] at hq
               obtain ⟨rfl, hp2⟩ := hq
               obtain ⟨ob2, h2, u2⟩ := HX.out.book hp2
               have H2 := Lib.hid h2
               clear h2 u2 hp2 hbk)
            | (go_at_call 23; obtain ⟨va3, vp3, lv3, hv3⟩ := (H2.out.below ((Below.refl _ _).alloc (Nat.le_refl _) (.cells #[.int .i64 0, .slice none 0 0, .slice none 0 0, .slice none 0 0] 55))).vw; refine (whole23 hv3 n hn4).mono ?_
               rintro e w3 ⟨rfl, hb3⟩
               rw [HWH.out]
               have H3 : Hid (HV w w3 ob2 ov gb gv _ v) := (H2.out.below ((Below.refl _ _).alloc (Nat.le_refl _) _)).below hb3.out
               have hv4 := hv3.below hb3.out
               have c13 : w3.cell? ⟨gv, 13, none⟩ = some (.bool v.handed) := blk_at hv4.hb 13 rfl
               have z13 : w3.frozen? ⟨gv, 13, none⟩ = false := blk_frozen hv4.hb 13
               rw [HHD.out] at c13
               clear hb3
               clear hv3 hv4))
          obtain ⟨ov2, h4⟩ := H3.out.hand true
          go_meet
          refine ⟨b, v, ob2, ov2, by rfl, HHD.out ▸ h4, HVR.out, HF.out.mono ?_, HVF.out.mono ?_⟩
          all_goals (have := HST.out; omega)
      have k3' : (o.f0 == 3) = false := beq_false_of_ne k3
      clear k3
      go_wp2_with (fail)
      go_meet
      refine ⟨b, v, ob, ov, by rfl, HX.out, HVR.out, HF.out.mono ?_, HVF.out.mono ?_⟩
      all_goals (have := HST.out; omega)
    case rest =>
      obtain ⟨b2, v2, ob2, ov2, rfl, HH2, HVR2, HF2, HVF2⟩ := hcut
      have HN25 : Hid (∀ W : World, Below wc.heap.size wc W → Calls Try.prog 25 #[.pointer (some ⟨gb, 0, none⟩)] W fun e w' => e = .returned (.int .i64 v2.id) ∧ W = w') := fun W hW => by
        obtain ⟨gp2, gl2, vc2, vd2, lw2, h2⟩ := HH2.out.bk
        rw [HVR2.out.id]
        exact now25 (h2.below hW)
      have c0 : wc.cell? ⟨gv, 0, none⟩ = some (.int .i64 v2.id) := by obtain ⟨va, vp, lv, hv⟩ := HH2.out.vw; exact blk_at hv.hb 0 rfl
      go_wp2_with (fail)
      refine start_ (n := 7) (S := (fun w' => w'.cell? ⟨gv, 0, none⟩ = some (.int .i64 v2.id))) (ds := []) #[false, false, false, false, false, false, false] (by kernel_rfl) rfl rfl (show wc.drew.cell? _ = _ from c0) (fun hHeld => ?_)
      have HBW : Hid (Below wc.heap.size wc wc.drew) := (Below.refl _ _).drew
      generalize wc.drew = W at hHeld HBW ⊢
      refine pure_ (i := 0) (N := some 227) (v := ?_) (a' := ?_) #[true, false, false, false, false, false, false] rfl rfl (by kernel_rfl) (fun _ _ _ h => h) (Or.inl ⟨by rfl, ?_⟩) ?_ ?_
      rotate_left
      · intro w'
        go_simp
        with_reducible rfl
      rotate_left
      · simp only [Act.put, List.setIfInBounds_toArray, List.set_cons_zero, List.set_cons_succ]
        rfl
      refine pure_ (i := 2) (N := some 229) (v := ?_) (a' := ?_) #[true, false, true, false, false, false, false] rfl rfl (by kernel_rfl) (fun _ _ _ h => h) (Or.inl ⟨by rfl, ?_⟩) ?_ ?_
      rotate_left
      · intro w'
        go_simp
        with_reducible rfl
      rotate_left
      · simp only [Act.put, List.setIfInBounds_toArray, List.set_cons_zero, List.set_cons_succ]
        rfl
      refine pure_ (i := 3) (N := some 230) (v := ?_) (a' := ?_) #[true, false, true, true, false, false, false] rfl rfl (by kernel_rfl) (fun _ _ _ h => h) (Or.inl ⟨by rfl, ?_⟩) ?_ ?_
      rotate_left
      · intro w'
        go_simp
        with_reducible rfl
      rotate_left
      · simp only [Act.put, List.setIfInBounds_toArray, List.set_cons_zero, List.set_cons_succ]
        rfl
      refine pure_ (i := 4) (N := some 231) (v := ?_) (a' := ?_) #[true, false, true, true, true, false, false] rfl rfl (by kernel_rfl) (fun _ _ _ h => h) (Or.inl ⟨by rfl, ?_⟩) ?_ ?_
      rotate_left
      · intro w'
        go_simp
        with_reducible rfl
      rotate_left
      · simp only [Act.put, List.setIfInBounds_toArray, List.set_cons_zero, List.set_cons_succ]
        rfl
      refine take_ (i := 5) (N := some 232) (v := ?_) (a' := ?_) #[true, false, true, true, true, true, false] rfl rfl (by kernel_rfl) (fun _ _ _ h => h) (Or.inl ⟨by rfl, ?_⟩) hHeld ?_ ?_
      rotate_left
      · intro w' s0
        go_simp
        with_reducible rfl
      rotate_left
      · simp only [Act.put, List.setIfInBounds_toArray, List.set_cons_zero, List.set_cons_succ]
        rfl
      refine one_ (i := 1) (N := some 228) #[true, true, true, true, true, true, false] rfl rfl (by kernel_rfl) (by decide) (fun K hK => ?_)
      refine goes_ Try.func25 (by kernel_rfl) rfl #[.pointer (some ⟨gb, 0, none⟩)] (by rfl) rfl rfl (by simp only [List.map_toArray, List.map_cons, List.map_nil]; rfl) ?_
      refine (HN25.out W HBW.out).mono ?_
      rintro e w5 ⟨rfl, rfl⟩
      refine ⟨_, rfl, ?_⟩
      refine hK.out _ _ hHeld (fun hHeld => ?_)
      clear hK K
      refine norm_ (a' := ?_) ?_ ?_
      rotate_left
      · show Act.put _ (some 228) _ = _
        simp only [Act.put, List.setIfInBounds_toArray, List.set_cons_zero, List.set_cons_succ]
        rfl
      refine pure_ (i := 6) (N := some 233) (v := ?_) (a' := ?_) #[true, true, true, true, true, true, true] rfl rfl (by kernel_rfl) (fun _ _ _ h => h) (Or.inl ⟨by rfl, ?_⟩) ?_ ?_
      rotate_left
      · intro w'
        go_simp
        with_reducible rfl
      rotate_left
      · simp only [Act.put, List.setIfInBounds_toArray, List.set_cons_zero, List.set_cons_succ]
        rfl
      refine done_ (by kernel_rfl) ?_
      clear hHeld
      go_wp2_with (fail)
      go_roundw
      case rel => exact ⟨k + 1, b2, v2, ob2, ov2, by omega, by go_num, HH2.out.below HBW.out, HVR2.out, HF2.out, HVF2.out⟩
      case measure => simp [intOf]; omega
end Go.Proofs.Ytomfknblehkocaa.C
