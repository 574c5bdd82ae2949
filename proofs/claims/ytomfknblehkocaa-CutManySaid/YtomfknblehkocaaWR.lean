/- CutRises, walked. -/
import Derived.Test.YtomfknblehkocaaRI
import Derived.Test.YtomfknblehkocaaIN
namespace Go.Proofs.Ytomfknblehkocaa.C
open Go.RowKit Go.Proofs.YtomfknblehkocaaW.PrintWords Go.Proofs.YtomfknblehkocaaW.PrintLast
set_option linter.unusedVariables false
set_option linter.unusedSimpArgs false
theorem partsOs_take_le (l : List S47) (k : Nat) : partsOs (l.take k) ≤ partsOs l := by
  conv => rhs; rw [← List.take_append_drop k l]
  unfold partsOs
  rw [List.map_append, List.sum_append]
  omega
theorem partsOs_step (l : List S47) (k : Nat) (z : S47) (h : k < l.length) : partsOs (l.take (k + 1)) = partsOs (l.take k) + partsO (l.getD k z) := by
  unfold partsOs
  exact sum_take_succ partsO l z k h
theorem legal_mode {mode ports back : Int} (h : newE mode ports back = 0) : (mode = 1 ∨ mode = 2 ∨ mode = 3) ∧ 1 ≤ ports ∧ ports ≤ 4 ∧ -1 ≤ back ∧ back < ports := by
  unfold newE at h
  split at h
  · omega
  · split at h
    · omega
    · omega
theorem BkI.below {w W : World} {base g : Nat} {own : Nat → Nat} {b : Bk} (h : BkI w base own g b) (hb : Below w.heap.size w W) : BkI W base own g b := by
  obtain ⟨gp, gl, vc, vd, lv, h⟩ := h
  exact ⟨gp, gl, vc, vd, lv, h.below hb⟩
set_option maxRecDepth 100000 in
set_option maxHeartbeats 4000000 in
theorem rises_walk (mode ports back : Int) (l : List S47) (A : Option Addr) (cc : Nat) (w : World) (hC : Kd.C k47 w A l.length l) (hc : l.length ≤ cc) (hl : ∀ y ∈ l, lenO y) :
    Calls Try.prog 10 #[.int .i64 mode, .int .i64 ports, .int .i64 back, .slice A l.length cc] w fun e w' => e = .returned (.bool true) ∧ Below w.heap.size w w' := by
  obtain ⟨n, hn⟩ : ∃ n, n = l.length := ⟨_, rfl⟩
  have Hn := Lib.hid hn
  have HC := Lib.hid hC
  have Hl := Lib.hid hl
  have hmax : n ≤ 9223372036854775807 := by rw [hn]; exact Kd.C_max hC
  have HLE := Lib.hid (legal13 mode ports back w)
  have HIN : Hid (∀ W : World, Below w.heap.size w W → Calls Try.prog 17 #[.slice A n cc] W fun e w' => InsideAns l e ∧ Hid (Below W.heap.size W w')) := fun W hW => by
    rw [hn]
    exact inside17 l A cc W (Kd.C_below hC hW) hl
  rw [← hn]
  clear hC hn hl
  by_cases hE : newE mode ports back = 0
  rotate_left
  · rw [beq_false_of_ne hE] at HLE
    clear hE
    go_enter Try.func10, Try.ntmps10
    go_wp2_with (go_at_call 13; refine HLE.out.mono ?_; rintro e w' ⟨rfl, rfl⟩)
    go_ret
    exact ⟨rfl, Below.refl _ _⟩
  have HM := Lib.hid (legal_mode hE)
  have HNE : Hid (Calls Try.prog 14 #[.int .i64 mode, .int .i64 ports, .int .i64 back] w fun e w' => NewOk mode ports.toNat back w e w') := by
    refine (new14 mode ports back w).mono ?_
    intro e w' h
    unfold NewAns at h
    rw [if_pos hE] at h
    exact h
  rw [show (newE mode ports back == 0) = true by simp [hE]] at HLE
  clear hE
  go_enter Try.func10, Try.ntmps10
  go_wp2_with (first
    | (go_at_call 13; refine HLE.out.mono ?_; rintro e w' ⟨rfl, rfl⟩)
    | (go_at_call 14; refine HNE.out.mono ?_; intro e w1 ha
       obtain ⟨g, own, rfl, hg, hb1, hB⟩ := ha
       have H1 := Lib.hid hb1
       have HB1 := Lib.hid hB
       clear hb1 hB)
    | (go_at_call 15; refine (num15 _ _).mono ?_; rintro e w' ⟨rfl, rfl⟩)
    | (go_at_call 16; refine (known16 mode HM.out.1 w1).mono ?_; rintro e w2 ⟨rfl, hb⟩
       have HK2 := Lib.hid hb
       have HB2 : Hid (Below w.heap.size w w2) := HB1.out.trans (hb.mono HB1.out.size)
       clear hb)
    | (go_at_call 17; refine (HIN.out w2 HB2.out).mono ?_; rintro e w3 ⟨⟨bi, rfl, hbi⟩, hb⟩
       have HK3 := Lib.hid hb.out
       have HB3 : Hid (Below w.heap.size w w3) := HB2.out.trans (hb.out.mono HB2.out.size)
       have HBI := Lib.hid hbi
       clear hb hbi
       cases bi))
  · go_ret
    exact ⟨rfl, HB3.out⟩
  have Hp : Hid (partsOs l ≤ 10000) := HBI.out (by first | rfl | trivial)
  have H3 : Hid (BkI w3 w.heap.size own g (Bk.new mode ports.toNat back)) := (H1.out.below HK2.out).below HK3.out
  clear HBI H1 HK2 HK3 HB1 HB2 HNE HIN HLE
  go_loopw [11, 12, 13] (fun v11 v12 v13 wr => ∃ (k : Nat) (c hd : Int) (b : Bk) (own : Nat → Nat), k ≤ n ∧ v13 = .int .i64 k ∧ v11 = .int .i64 c ∧ v12 = .int .i64 hd ∧ Hid (BkI wr w.heap.size own g b) ∧ Hid (Below w.heap.size w wr) ∧ Hid (RI b c hd) ∧ Hid (Fit b mode back ports.toNat (partsOs (l.take k)))) (fun _ _ v13 _ => n - (intOf v13).toNat)
  case atStart => exact ⟨0, 0, 0, _, own, Nat.zero_le _, rfl, rfl, rfl, H3.out, HB3.out, RI.new _ _ _, Fit.new _ _ _⟩
  case round =>
    clear H3 HB3
    obtain ⟨k, c, hd, b, own, hk, rfl, rfl, rfl, ⟨gp, gl, vc, vd, lv, hb⟩, HB, HR, HF⟩ := hrel
    have HBk := Lib.hid hb
    clear hb
    by_cases hlt : k < n
    rotate_left
    · go_wp2
      go_ret
      exact ⟨rfl, HB.out⟩
    by_cases h6 : (k : Int) < 600
    rotate_left
    · have h6' : decide ((k : Int) < 600) = false := by simpa using h6
      go_wp2
      go_ret
      exact ⟨rfl, HB.out⟩
    have h6' : decide ((k : Int) < 600) = true := by simpa using h6
    obtain ⟨ad, A8, c8, A9, c9, A10, c10, A11, c11, A13, c13, rfl, e0, e1, e2, e3, e4, e5, e6, e7, e8, e9, e10, e11, e12, e13, hl8, hC8, hl9, hC9, hl10, hC10, hl11, hC11, hl13, hC13⟩ := at_T47 HC.out (k : Int) (by omega) (by rw [← Hn.out]; omega)
    have hmem : rd_T47 l (k : Int) ∈ l := getD_mem _ _ _ (by rw [Int.toNat_natCast, ← Hn.out]; exact hlt)
    have hst : partsOs (l.take (k + 1)) = partsOs (l.take k) + partsO (rd_T47 l (k : Int)) := partsOs_step l k _ (by rw [← Hn.out]; exact hlt)
    generalize rd_T47 l (k : Int) = o at *
    rw [Int.toNat_natCast] at e0 e1 e2 e3 e4 e5 e6 e7 e8 e9 e10 e11 e12 e13
    replace e0 := (HB.out.cell (World.block_lt_of_cell? w _ e0)).trans e0
    replace e1 := (HB.out.cell (World.block_lt_of_cell? w _ e1)).trans e1
    replace e2 := (HB.out.cell (World.block_lt_of_cell? w _ e2)).trans e2
    replace e3 := (HB.out.cell (World.block_lt_of_cell? w _ e3)).trans e3
    replace e4 := (HB.out.cell (World.block_lt_of_cell? w _ e4)).trans e4
    replace e5 := (HB.out.cell (World.block_lt_of_cell? w _ e5)).trans e5
    replace e6 := (HB.out.cell (World.block_lt_of_cell? w _ e6)).trans e6
    replace e7 := (HB.out.cell (World.block_lt_of_cell? w _ e7)).trans e7
    replace e8 := (HB.out.cell (World.block_lt_of_cell? w _ e8)).trans e8
    replace e9 := (HB.out.cell (World.block_lt_of_cell? w _ e9)).trans e9
    replace e10 := (HB.out.cell (World.block_lt_of_cell? w _ e10)).trans e10
    replace e11 := (HB.out.cell (World.block_lt_of_cell? w _ e11)).trans e11
    replace e12 := (HB.out.cell (World.block_lt_of_cell? w _ e12)).trans e12
    replace e13 := (HB.out.cell (World.block_lt_of_cell? w _ e13)).trans e13
    have hpo : partsO o ≤ 10000 := by
      have h1 := partsOs_take_le l (k + 1)
      have h2 := Hp.out
      omega
    have hpt : partsOs (l.take k) ≤ 10000 := Nat.le_trans (partsOs_take_le l k) Hp.out
    have hu : partsR o.f4 ≤ 100000 ∧ partsC o.f7.f1 ≤ 100000 ∧ partsRs o.f5 ≤ 100000 ∧ partsRs o.f6 ≤ 100000 := by unfold partsO at hpo; omega
    have HU := Lib.hid hu
    have HST := Lib.hid hst
    have HPO := Lib.hid hpo
    have HPT := Lib.hid hpt
    have hlo : ∀ k, own k ≠ 0 → w.heap.size ≤ k := fun k hk => (HBk.out.lo k hk).1
    have HL8 := Lib.hid hl8
    have HL9 := Lib.hid hl9
    have HL10 := Lib.hid hl10
    have HL11 := Lib.hid hl11
    have HL13 := Lib.hid hl13
    have HBx : Hid (Below w.heap.size w (wr.alloc (.cells #[.int .i64 o.f0, .int .i64 o.f1, .int .i64 o.f2, .int .i64 o.f3, .string o.f4.f0, .int .i64 o.f4.f1.f0, .int .i64 o.f4.f1.f1, .string o.f4.f1.f2, .slice A8 o.f4.f1.f3.length c8, .slice A9 o.f4.f2.length c9, .slice A10 o.f5.length c10, .slice A11 o.f6.length c11, .int .i64 o.f7.f0, .slice A13 o.f7.f1.length c13] 47))) := HB.out.alloc HB.out.size _
    have a8 : Hid (Away k42 own (wr.alloc (.cells #[.int .i64 o.f0, .int .i64 o.f1, .int .i64 o.f2, .int .i64 o.f3, .string o.f4.f0, .int .i64 o.f4.f1.f0, .int .i64 o.f4.f1.f1, .string o.f4.f1.f2, .slice A8 o.f4.f1.f3.length c8, .slice A9 o.f4.f2.length c9, .slice A10 o.f5.length c10, .slice A11 o.f6.length c11, .int .i64 o.f7.f0, .slice A13 o.f7.f1.length c13] 47)) A8 o.f4.f1.f3) := Away.of_C hC8 HBx.out hlo
    have a9 : Hid (Away (Kd.int .i64) own (wr.alloc (.cells #[.int .i64 o.f0, .int .i64 o.f1, .int .i64 o.f2, .int .i64 o.f3, .string o.f4.f0, .int .i64 o.f4.f1.f0, .int .i64 o.f4.f1.f1, .string o.f4.f1.f2, .slice A8 o.f4.f1.f3.length c8, .slice A9 o.f4.f2.length c9, .slice A10 o.f5.length c10, .slice A11 o.f6.length c11, .int .i64 o.f7.f0, .slice A13 o.f7.f1.length c13] 47)) A9 o.f4.f2) := Away.of_C hC9 HBx.out hlo
    have a10 : Hid (Away k45 own (wr.alloc (.cells #[.int .i64 o.f0, .int .i64 o.f1, .int .i64 o.f2, .int .i64 o.f3, .string o.f4.f0, .int .i64 o.f4.f1.f0, .int .i64 o.f4.f1.f1, .string o.f4.f1.f2, .slice A8 o.f4.f1.f3.length c8, .slice A9 o.f4.f2.length c9, .slice A10 o.f5.length c10, .slice A11 o.f6.length c11, .int .i64 o.f7.f0, .slice A13 o.f7.f1.length c13] 47)) A10 o.f5) := Away.of_C hC10 HBx.out hlo
    have a11 : Hid (Away k45 own (wr.alloc (.cells #[.int .i64 o.f0, .int .i64 o.f1, .int .i64 o.f2, .int .i64 o.f3, .string o.f4.f0, .int .i64 o.f4.f1.f0, .int .i64 o.f4.f1.f1, .string o.f4.f1.f2, .slice A8 o.f4.f1.f3.length c8, .slice A9 o.f4.f2.length c9, .slice A10 o.f5.length c10, .slice A11 o.f6.length c11, .int .i64 o.f7.f0, .slice A13 o.f7.f1.length c13] 47)) A11 o.f6) := Away.of_C hC11 HBx.out hlo
    have a13 : Hid (Away k104 own (wr.alloc (.cells #[.int .i64 o.f0, .int .i64 o.f1, .int .i64 o.f2, .int .i64 o.f3, .string o.f4.f0, .int .i64 o.f4.f1.f0, .int .i64 o.f4.f1.f1, .string o.f4.f1.f2, .slice A8 o.f4.f1.f3.length c8, .slice A9 o.f4.f2.length c9, .slice A10 o.f5.length c10, .slice A11 o.f6.length c11, .int .i64 o.f7.f0, .slice A13 o.f7.f1.length c13] 47)) A13 o.f7.f1) := Away.of_C hC13 HBx.out hlo
    have HX : Hid (BkAt (wr.alloc (.cells #[.int .i64 o.f0, .int .i64 o.f1, .int .i64 o.f2, .int .i64 o.f3, .string o.f4.f0, .int .i64 o.f4.f1.f0, .int .i64 o.f4.f1.f1, .string o.f4.f1.f2, .slice A8 o.f4.f1.f3.length c8, .slice A9 o.f4.f2.length c9, .slice A10 o.f5.length c10, .slice A11 o.f6.length c11, .int .i64 o.f7.f0, .slice A13 o.f7.f1.length c13] 47)) w.heap.size own g b gp gl vc vd lv) := HBk.out.below ((Below.refl _ _).alloc (Nat.le_refl _) _)
    have Hbs : Hid (w.heap.size ≤ ((wr.alloc (.cells #[.int .i64 o.f0, .int .i64 o.f1, .int .i64 o.f2, .int .i64 o.f3, .string o.f4.f0, .int .i64 o.f4.f1.f0, .int .i64 o.f4.f1.f1, .string o.f4.f1.f2, .slice A8 o.f4.f1.f3.length c8, .slice A9 o.f4.f2.length c9, .slice A10 o.f5.length c10, .slice A11 o.f6.length c11, .int .i64 o.f7.f0, .slice A13 o.f7.f1.length c13] 47))).heap.size) := HBx.out.size
    have Hfr : Hid (own wr.heap.size = 0) := known_free HBk.out (Nat.le_refl _)
    have HLG : Hid (∀ i, (b.logs.getD i []).length ≤ 10000) := fun i => Nat.le_trans (HF.out.l i) hpt
    clear hC8 hC9 hC10 hC11 hC13 hmem hst hpo hpt hu hl8 hl9 hl10 hl11 hl13 hlo
    by_cases k1 : o.f0 = 1
    · have k1' : (o.f0 == 1) = true := by simp [k1]
      clear k1
      go_wp2_with (first
        | (go_at_call 18; refine (took18 HX.out Hbs.out o.f2 o.f4 A8 c8 a8.out HL8.out A9 c9 a9.out HL9.out HU.out.1 (fun i => by have := HLG.out i; omega)).mono ?_
           rintro e w2 ⟨rfl, own2, h2, u2⟩
           have H2 := Lib.hid h2
           have HB2 : Hid (Below w.heap.size w w2) := HBx.out.trans (u2.below HBx.out.size (fun k hk => by have := HBk.out.lo k; omega))
           clear h2 u2))
      go_roundw
      case rel =>
        refine ⟨k + 1, c, hd, _, own2, by omega, by go_num, rfl, rfl, H2.out, HB2.out, HR.out.took _ _, (HF.out.took _ _).mono ?_⟩
        have := HST.out
        have : 1 ≤ partsO o := by unfold partsO partsR; omega
        omega
      case measure => simp [intOf]; omega
    have k1' : (o.f0 == 1) = false := beq_false_of_ne k1
    clear k1
    by_cases k2 : o.f0 = 2
    · have k2' : (o.f0 == 2) = true := by simp [k2]
      clear k2
      rcases hx : b.markC o.f2 o.f3 o.f5 o.f7 o.f6 with _ | _
      · have HXX := Lib.hid hx
        clear hx
        go_wp2_with (first
          | (go_at_call 20; refine (mark20 HX.out Hbs.out o.f2 o.f3 o.f5 A10 c10 a10.out HL10.out HU.out.2.2.1 o.f7 A13 c13 a13.out HL13.out HU.out.2.1 o.f6 A11 c11 a11.out HL11.out HU.out.2.2.2 (fun i => by have := HLG.out i; have := partsRs_len o.f5; have := HU.out.2.2.1; omega) (by rw [HF.out.m]; exact HM.out.1)).mono ?_
             rintro e w2 ⟨he, own2, h2, u2⟩
             rw [HXX.out] at he
             subst he
             have H2 := Lib.hid h2
             have HB2 : Hid (Below w.heap.size w w2) := HBx.out.trans (u2.below HBx.out.size (fun k hk => by have := HBk.out.lo k; omega))
             have cid : w2.cell? ⟨wr.heap.size, 3, none⟩ = some (.int .i64 o.f3) := blk_at ((u2.block wr.heap.size (by simp only [World.size_alloc]; omega) Hfr.out).trans (blk_new wr _)) 3 rfl
             clear h2 u2))
        refine start_ (n := 14) (S := (fun w' => w'.cell? ⟨wr.heap.size, 3, none⟩ = some (.int .i64 o.f3))) (ds := []) #[false, false, false, false, false, false, false, false, false, false, false, false, false, false] (by kernel_rfl) rfl rfl (show w2.drew.cell? _ = _ from cid) (fun hHeld => ?_)
        have HBW : Hid (Below w2.heap.size w2 w2.drew) := (Below.refl _ _).drew
        generalize w2.drew = W at hHeld HBW ⊢
        refine pure_ (i := 0) (N := some 88) (v := ?_) (a' := ?_) #[true, false, false, false, false, false, false, false, false, false, false, false, false, false] rfl rfl (by kernel_rfl) (fun _ _ _ h => h) (Or.inl ⟨by rfl, ?_⟩) ?_ ?_
        rotate_left
        · intro w'
          go_simp
          with_reducible rfl
        rotate_left
        · simp only [Act.put, List.setIfInBounds_toArray, List.set_cons_zero, List.set_cons_succ]
          rfl
        refine pure_ (i := 1) (N := some 89) (v := ?_) (a' := ?_) #[true, true, false, false, false, false, false, false, false, false, false, false, false, false] rfl rfl (by kernel_rfl) (fun _ _ _ h => h) (Or.inl ⟨by rfl, ?_⟩) ?_ ?_
        rotate_left
        · intro w'
          go_simp
          with_reducible rfl
        rotate_left
        · simp only [Act.put, List.setIfInBounds_toArray, List.set_cons_zero, List.set_cons_succ]
          rfl
        refine pure_ (i := 2) (N := some 90) (v := undef) (a' := ?_) #[true, true, true, false, false, false, false, false, false, false, false, false, false, false] rfl rfl (by kernel_rfl) (fun _ _ _ h => h) (Or.inr ⟨by rfl, rfl⟩) ?_ ?_
        rotate_left
        · simp only [Act.put, List.setIfInBounds_toArray, List.set_cons_zero, List.set_cons_succ]
          rfl
        refine pure_ (i := 3) (N := some 91) (v := undef) (a' := ?_) #[true, true, true, true, false, false, false, false, false, false, false, false, false, false] rfl rfl (by kernel_rfl) (fun _ _ _ h => h) (Or.inr ⟨by rfl, rfl⟩) ?_ ?_
        rotate_left
        · simp only [Act.put, List.setIfInBounds_toArray, List.set_cons_zero, List.set_cons_succ]
          rfl
        refine pure_ (i := 4) (N := some 92) (v := undef) (a' := ?_) #[true, true, true, true, true, false, false, false, false, false, false, false, false, false] rfl rfl (by kernel_rfl) (fun _ _ _ h => h) (Or.inr ⟨by rfl, rfl⟩) ?_ ?_
        rotate_left
        · simp only [Act.put, List.setIfInBounds_toArray, List.set_cons_zero, List.set_cons_succ]
          rfl
        refine pure_ (i := 5) (N := some 93) (v := undef) (a' := ?_) #[true, true, true, true, true, true, false, false, false, false, false, false, false, false] rfl rfl (by kernel_rfl) (fun _ _ _ h => h) (Or.inr ⟨by rfl, rfl⟩) ?_ ?_
        rotate_left
        · simp only [Act.put, List.setIfInBounds_toArray, List.set_cons_zero, List.set_cons_succ]
          rfl
        refine pure_ (i := 6) (N := some 94) (v := undef) (a' := ?_) #[true, true, true, true, true, true, true, false, false, false, false, false, false, false] rfl rfl (by kernel_rfl) (fun _ _ _ h => h) (Or.inr ⟨by rfl, rfl⟩) ?_ ?_
        rotate_left
        · simp only [Act.put, List.setIfInBounds_toArray, List.set_cons_zero, List.set_cons_succ]
          rfl
        refine pure_ (i := 7) (N := some 95) (v := undef) (a' := ?_) #[true, true, true, true, true, true, true, true, false, false, false, false, false, false] rfl rfl (by kernel_rfl) (fun _ _ _ h => h) (Or.inr ⟨by rfl, rfl⟩) ?_ ?_
        rotate_left
        · simp only [Act.put, List.setIfInBounds_toArray, List.set_cons_zero, List.set_cons_succ]
          rfl
        refine pure_ (i := 8) (N := some 96) (v := undef) (a' := ?_) #[true, true, true, true, true, true, true, true, true, false, false, false, false, false] rfl rfl (by kernel_rfl) (fun _ _ _ h => h) (Or.inr ⟨by rfl, rfl⟩) ?_ ?_
        rotate_left
        · simp only [Act.put, List.setIfInBounds_toArray, List.set_cons_zero, List.set_cons_succ]
          rfl
        refine pure_ (i := 9) (N := some 97) (v := undef) (a' := ?_) #[true, true, true, true, true, true, true, true, true, true, false, false, false, false] rfl rfl (by kernel_rfl) (fun _ _ _ h => h) (Or.inr ⟨by rfl, rfl⟩) ?_ ?_
        rotate_left
        · simp only [Act.put, List.setIfInBounds_toArray, List.set_cons_zero, List.set_cons_succ]
          rfl
        refine pure_ (i := 10) (N := some 98) (v := undef) (a' := ?_) #[true, true, true, true, true, true, true, true, true, true, true, false, false, false] rfl rfl (by kernel_rfl) (fun _ _ _ h => h) (Or.inr ⟨by rfl, rfl⟩) ?_ ?_
        rotate_left
        · simp only [Act.put, List.setIfInBounds_toArray, List.set_cons_zero, List.set_cons_succ]
          rfl
        refine pure_ (i := 11) (N := some 99) (v := undef) (a' := ?_) #[true, true, true, true, true, true, true, true, true, true, true, true, false, false] rfl rfl (by kernel_rfl) (fun _ _ _ h => h) (Or.inr ⟨by rfl, rfl⟩) ?_ ?_
        rotate_left
        · simp only [Act.put, List.setIfInBounds_toArray, List.set_cons_zero, List.set_cons_succ]
          rfl
        refine pure_ (i := 12) (N := some 100) (v := undef) (a' := ?_) #[true, true, true, true, true, true, true, true, true, true, true, true, true, false] rfl rfl (by kernel_rfl) (fun _ _ _ h => h) (Or.inr ⟨by rfl, rfl⟩) ?_ ?_
        rotate_left
        · simp only [Act.put, List.setIfInBounds_toArray, List.set_cons_zero, List.set_cons_succ]
          rfl
        refine pure_ (i := 13) (N := some 101) (v := ?_) (a' := ?_) #[true, true, true, true, true, true, true, true, true, true, true, true, true, true] rfl rfl (by kernel_rfl) (fun _ _ _ h => h) (Or.inl ⟨by rfl, ?_⟩) ?_ ?_
        rotate_left
        · intro w'
          go_simp
          with_reducible rfl
        rotate_left
        · simp only [Act.put, List.setIfInBounds_toArray, List.set_cons_zero, List.set_cons_succ]
          rfl
        refine done_ (by kernel_rfl) ?_
        go_wp2
        go_roundw
        case rel =>
          refine ⟨k + 1, c, hd, _, own2, by omega, by go_num, rfl, rfl, H2.out.below HBW.out, HB2.out.trans (HBW.out.mono HB2.out.size), HR.out.mark_no HXX.out, (HF.out.mark _ _ _ _ _).mono ?_⟩
          have := HST.out
          have := partsRs_len o.f5
          unfold partsO at this
          unfold partsO at *
          omega
        case measure => simp [intOf]; omega
      · have HXX := Lib.hid hx
        clear hx
        have HMY := Lib.hid (HR.out.mark_yes HXX.out)
        have hci : decide (o.f3 ≤ c) = false := by have := HMY.out.1; simp; omega
        go_wp2_with (first
          | (go_at_call 20; refine (mark20 HX.out Hbs.out o.f2 o.f3 o.f5 A10 c10 a10.out HL10.out HU.out.2.2.1 o.f7 A13 c13 a13.out HL13.out HU.out.2.1 o.f6 A11 c11 a11.out HL11.out HU.out.2.2.2 (fun i => by have := HLG.out i; have := partsRs_len o.f5; have := HU.out.2.2.1; omega) (by rw [HF.out.m]; exact HM.out.1)).mono ?_
             rintro e w2 ⟨he, own2, h2, u2⟩
             rw [HXX.out] at he
             subst he
             have H2 := Lib.hid h2
             have HB2 : Hid (Below w.heap.size w w2) := HBx.out.trans (u2.below HBx.out.size (fun k hk => by have := HBk.out.lo k; omega))
             have cid : w2.cell? ⟨wr.heap.size, 3, none⟩ = some (.int .i64 o.f3) := blk_at ((u2.block wr.heap.size (by simp only [World.size_alloc]; omega) Hfr.out).trans (blk_new wr _)) 3 rfl
             clear h2 u2))
        have HN25 : Hid (∀ W : World, Below w2.heap.size w2 W → Calls Try.prog 25 #[.pointer (some ⟨g, 0, none⟩)] W fun e w' => e = .returned (.int .i64 o.f3) ∧ W = w') := fun W hW => by
          obtain ⟨gp2, gl2, vc2, vd2, lv2, h2⟩ := H2.out
          refine (now25 (h2.below hW)).mono ?_
          rintro e w' ⟨he, rfl⟩
          rw [HMY.out.2.1] at he
          exact ⟨he, rfl⟩
        refine start_ (n := 14) (S := (fun w' => w'.cell? ⟨wr.heap.size, 3, none⟩ = some (.int .i64 o.f3))) (ds := []) #[false, false, false, false, false, false, false, false, false, false, false, false, false, false] (by kernel_rfl) rfl rfl (show w2.drew.cell? _ = _ from cid) (fun hHeld => ?_)
        have HBW : Hid (Below w2.heap.size w2 w2.drew) := (Below.refl _ _).drew
        generalize w2.drew = W at hHeld HBW ⊢
        refine pure_ (i := 0) (N := some 88) (v := ?_) (a' := ?_) #[true, false, false, false, false, false, false, false, false, false, false, false, false, false] rfl rfl (by kernel_rfl) (fun _ _ _ h => h) (Or.inl ⟨by rfl, ?_⟩) ?_ ?_
        rotate_left
        · intro w'
          go_simp
          with_reducible rfl
        rotate_left
        · simp only [Act.put, List.setIfInBounds_toArray, List.set_cons_zero, List.set_cons_succ]
          rfl
        refine pure_ (i := 1) (N := some 89) (v := ?_) (a' := ?_) #[true, true, false, false, false, false, false, false, false, false, false, false, false, false] rfl rfl (by kernel_rfl) (fun _ _ _ h => h) (Or.inl ⟨by rfl, ?_⟩) ?_ ?_
        rotate_left
        · intro w'
          go_simp
          with_reducible rfl
        rotate_left
        · simp only [Act.put, List.setIfInBounds_toArray, List.set_cons_zero, List.set_cons_succ]
          rfl
        refine pure_ (i := 2) (N := some 90) (v := ?_) (a' := ?_) #[true, true, true, false, false, false, false, false, false, false, false, false, false, false] rfl rfl (by kernel_rfl) (fun _ _ _ h => h) (Or.inl ⟨by rfl, ?_⟩) ?_ ?_
        rotate_left
        · intro w'
          go_simp
          with_reducible rfl
        rotate_left
        · simp only [Act.put, List.setIfInBounds_toArray, List.set_cons_zero, List.set_cons_succ]
          rfl
        refine take_ (i := 3) (N := some 91) (v := ?_) (a' := ?_) #[true, true, true, true, false, false, false, false, false, false, false, false, false, false] rfl rfl (by kernel_rfl) (fun _ _ _ h => h) (Or.inl ⟨by rfl, ?_⟩) hHeld ?_ ?_
        rotate_left
        · intro w' s0
          go_simp
          with_reducible rfl
        rotate_left
        · simp only [Act.put, List.setIfInBounds_toArray, List.set_cons_zero, List.set_cons_succ]
          rfl
        refine pure_ (i := 4) (N := some 92) (v := ?_) (a' := ?_) #[true, true, true, true, true, false, false, false, false, false, false, false, false, false] rfl rfl (by kernel_rfl) (fun _ _ _ h => h) (Or.inl ⟨by rfl, ?_⟩) ?_ ?_
        rotate_left
        · intro w'
          go_simp
          with_reducible rfl
        rotate_left
        · simp only [Act.put, List.setIfInBounds_toArray, List.set_cons_zero, List.set_cons_succ]
          rfl
        refine pure_ (i := 5) (N := some 93) (v := ?_) (a' := ?_) #[true, true, true, true, true, true, false, false, false, false, false, false, false, false] rfl rfl (by kernel_rfl) (fun _ _ _ h => h) (Or.inl ⟨by rfl, ?_⟩) ?_ ?_
        rotate_left
        · intro w'
          go_simp
          with_reducible rfl
        rotate_left
        · simp only [Act.put, List.setIfInBounds_toArray, List.set_cons_zero, List.set_cons_succ]
          rfl
        refine pure_ (i := 6) (N := some 94) (v := ?_) (a' := ?_) #[true, true, true, true, true, true, true, false, false, false, false, false, false, false] rfl rfl (by kernel_rfl) (fun _ _ _ h => h) (Or.inl ⟨by rfl, ?_⟩) ?_ ?_
        rotate_left
        · intro w'
          go_simp
          with_reducible rfl
        rotate_left
        · simp only [Act.put, List.setIfInBounds_toArray, List.set_cons_zero, List.set_cons_succ]
          rfl
        refine pure_ (i := 7) (N := some 95) (v := ?_) (a' := ?_) #[true, true, true, true, true, true, true, true, false, false, false, false, false, false] rfl rfl (by kernel_rfl) (fun _ _ _ h => h) (Or.inl ⟨by rfl, ?_⟩) ?_ ?_
        rotate_left
        · intro w'
          go_simp
          with_reducible rfl
        rotate_left
        · simp only [Act.put, List.setIfInBounds_toArray, List.set_cons_zero, List.set_cons_succ]
          rfl
        refine pure_ (i := 9) (N := some 97) (v := ?_) (a' := ?_) #[true, true, true, true, true, true, true, true, false, true, false, false, false, false] rfl rfl (by kernel_rfl) (fun _ _ _ h => h) (Or.inl ⟨by rfl, ?_⟩) ?_ ?_
        rotate_left
        · intro w'
          go_simp
          with_reducible rfl
        rotate_left
        · simp only [Act.put, List.setIfInBounds_toArray, List.set_cons_zero, List.set_cons_succ]
          rfl
        refine take_ (i := 10) (N := some 98) (v := ?_) (a' := ?_) #[true, true, true, true, true, true, true, true, false, true, true, false, false, false] rfl rfl (by kernel_rfl) (fun _ _ _ h => h) (Or.inl ⟨by rfl, ?_⟩) hHeld ?_ ?_
        rotate_left
        · intro w' s0
          go_simp
          with_reducible rfl
        rotate_left
        · simp only [Act.put, List.setIfInBounds_toArray, List.set_cons_zero, List.set_cons_succ]
          rfl
        refine one_ (i := 8) (N := some 96) #[true, true, true, true, true, true, true, true, true, true, true, false, false, false] rfl rfl (by kernel_rfl) (by decide) (fun K hK => ?_)
        refine goes_ Try.func25 (by kernel_rfl) rfl #[.pointer (some ⟨g, 0, none⟩)] (by rfl) rfl rfl (by simp only [List.map_toArray, List.map_cons, List.map_nil]; rfl) ?_
        refine (HN25.out W HBW.out).mono ?_
        rintro e w5 ⟨rfl, rfl⟩
        refine ⟨_, rfl, ?_⟩
        refine hK.out _ _ hHeld (fun hHeld => ?_)
        clear hK K
        refine norm_ (a' := ?_) ?_ ?_
        rotate_left
        · show Act.put _ (some 96) _ = _
          simp only [Act.put, List.setIfInBounds_toArray, List.set_cons_zero, List.set_cons_succ]
          rfl
        refine pure_ (i := 11) (N := some 99) (v := ?_) (a' := ?_) #[true, true, true, true, true, true, true, true, true, true, true, true, false, false] rfl rfl (by kernel_rfl) (fun _ _ _ h => h) (Or.inl ⟨by rfl, ?_⟩) ?_ ?_
        rotate_left
        · intro w'
          go_simp
          with_reducible rfl
        rotate_left
        · simp only [Act.put, List.setIfInBounds_toArray, List.set_cons_zero, List.set_cons_succ]
          rfl
        refine pure_ (i := 12) (N := some 100) (v := ?_) (a' := ?_) #[true, true, true, true, true, true, true, true, true, true, true, true, true, false] rfl rfl (by kernel_rfl) (fun _ _ _ h => h) (Or.inl ⟨by rfl, ?_⟩) ?_ ?_
        rotate_left
        · intro w'
          go_simp
          with_reducible rfl
        rotate_left
        · simp only [Act.put, List.setIfInBounds_toArray, List.set_cons_zero, List.set_cons_succ]
          rfl
        refine pure_ (i := 13) (N := some 101) (v := ?_) (a' := ?_) #[true, true, true, true, true, true, true, true, true, true, true, true, true, true] rfl rfl (by kernel_rfl) (fun _ _ _ h => h) (Or.inl ⟨by rfl, ?_⟩) ?_ ?_
        rotate_left
        · intro w'
          go_simp
          with_reducible rfl
        rotate_left
        · simp only [Act.put, List.setIfInBounds_toArray, List.set_cons_zero, List.set_cons_succ]
          rfl
        refine done_ (by kernel_rfl) ?_
        go_wp2
        go_roundw
        case rel =>
          refine ⟨k + 1, o.f3, hd, _, own2, by omega, by go_num, rfl, rfl, H2.out.below HBW.out, HB2.out.trans (HBW.out.mono HB2.out.size), HMY.out.2.2, (HF.out.mark _ _ _ _ _).mono ?_⟩
          have := HST.out
          have := partsRs_len o.f5
          unfold partsO at *
          omega
        case measure => simp [intOf]; omega
    have k2' : (o.f0 == 2) = false := beq_false_of_ne k2
    clear k2
    by_cases k3 : o.f0 = 3
    · have k3' : (o.f0 == 3) = true := by simp [k3]
      clear k3
      rcases hr : b.ready with _ | _
      · have HRD := Lib.hid hr
        clear hr
        go_wp2_with (first
          | (go_at_call 22; refine (part22 HX.out).mono ?_
             intro e w2 hq
             unfold PartAns at hq
             rw [if_neg (by rw [HRD.out]; simp)] at hq
             obtain ⟨rfl, own2, h2, u2⟩ := hq
             have H2 := Lib.hid h2
             have HB2 : Hid (Below w.heap.size w w2) := HBx.out.trans (u2.below HBx.out.size (fun k hk => by have := HBk.out.lo k; omega))
             clear h2 u2))
        go_roundw
        case rel =>
          refine ⟨k + 1, c, hd, _, own2, by omega, by go_num, rfl, rfl, H2.out.below (below_alloc (Below.refl _ _) _), HB2.out.alloc HB2.out.size _, HR.out, HF.out.mono ?_⟩
          have := HST.out
          omega
        case measure => simp [intOf]; omega
      · have HRD := Lib.hid hr
        clear hr
        have HPY := Lib.hid (HR.out.part HRD.out)
        have i1 : decide (b.now ≤ hd) = false := by have := HPY.out.1; simp; omega
        have i2 : (b.now != c) = false := by have := HPY.out.2.1; simp [this]
        have HRN : Hid (RI b.handed c b.now) := by have := HPY.out.2.2; have h2 := HPY.out.2.1; rw [h2] at this ⊢; exact this
        go_wp2_with (first
          | (go_at_call 22; refine (part22 HX.out).mono ?_
             intro e w2 hq
             unfold PartAns at hq
             rw [if_pos HRD.out] at hq
             obtain ⟨own2, v, rfl, h2, u2, vc2, gl2, vd2, lv2, rfl, hvc, hvd, _⟩ := hq
             obtain ⟨Ac, cc2, rfl⟩ := Kd.R_slice hvc
             obtain ⟨Ad, cd, rfl⟩ := Kd.R_slice hvd
             have H2 := Lib.hid h2
             have HB2 : Hid (Below w.heap.size w w2) := HBx.out.trans (u2.below HBx.out.size (fun k hk => by have := HBk.out.lo k; omega))
             clear h2 u2 hvc hvd))
        go_roundw
        case rel =>
          refine ⟨k + 1, c, b.now, _, own2, by omega, by go_num, rfl, rfl, H2.out.below (below_alloc (Below.refl _ _) _), HB2.out.alloc HB2.out.size _, HRN.out, HF.out.handed.mono (Nat.zero_le _)⟩
        case measure => simp [intOf]; omega
    · have k3' : (o.f0 == 3) = false := beq_false_of_ne k3
      clear k3
      go_wp2
      go_roundw
      case rel =>
        refine ⟨k + 1, c, hd, b, own, by omega, by go_num, rfl, rfl, ⟨_, _, _, _, _, HX.out⟩, HBx.out, HR.out, HF.out.mono ?_⟩
        have := HST.out
        omega
      case measure => simp [intOf]; omega
end Go.Proofs.Ytomfknblehkocaa.C
