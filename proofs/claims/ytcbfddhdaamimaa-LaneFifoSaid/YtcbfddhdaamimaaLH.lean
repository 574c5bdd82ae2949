/- Put; Close. -/
import Derived.Test.YtcbfddhdaamimaaLG
namespace Go.Proofs.Ytcbfddhdaamimaa.PLaneFifo
open Go.RowKit Go.Conc Go.Proofs.YtcbfddhdaamimaaW.PrintWords Go.Proofs.YtcbfddhdaamimaaW.PrintLast
set_option linter.unusedVariables false
set_option linter.unusedSimpArgs false

/-- How many records. -/
def recsX (xs : List S35) : Int := ((xs.filter fun x => x.f0 == 0).length : Nat)
theorem recs_map (l : List Pr) : recs l = recsX (l.map (·.1)) := by
  unfold recs recsX
  rw [List.filter_map, List.length_map]
  rfl
def fullX (rm : Int) (xs : List S35) : Bool := decide (0 < rm) && decide (rm ≤ recsX xs)
theorem full_map (rm : Int) (l : List Pr) : full rm l = fullX rm (l.map (·.1)) := by unfold full fullX; rw [recs_map]
/-- Why an item can't be laid: 0: it can. -/
def stops (rm : Int) (xs : List S35) (y : S35) : Int := if y.f0 < 0 then 52 else if y.f0 = 0 ∧ fullX rm xs = true then 51 else 0
/-- Put: how many went in; the error; what lies in the lane. -/
def putP (rm : Int) : List S35 → List S35 → Nat × Int × List S35
  | xs, [] => (0, 0, xs)
  | xs, y :: ys => if stops rm xs y = 0 then ((putP rm (xs ++ [cop y]) ys).1 + 1, (putP rm (xs ++ [cop y]) ys).2) else (0, stops rm xs y, xs)
def PutAns (own : Nat → Nat) (w : World) (g : Nat) (rm : Int) (l : List Pr) (ys : List S35) (e : Ending) (w' : World) : Prop := ∃ l2, l2.map (·.1) = (putP rm (l.map (·.1)) ys).2.2 ∧ e = .returned (.tuple #[.int .i64 ((putP rm (l.map (·.1)) ys).1 : Nat), .int .i64 (putP rm (l.map (·.1)) ys).2.1]) ∧ LaneTo own w g rm false l2 w'
theorem putP_cons (rm : Int) (xs : List S35) (y : S35) (ys : List S35) (h : stops rm xs y = 0) : putP rm xs (y :: ys) = ((putP rm (xs ++ [cop y]) ys).1 + 1, (putP rm (xs ++ [cop y]) ys).2) := by
  simp only [putP]
  rw [if_pos h]
theorem putP_stop (rm : Int) (xs : List S35) (y : S35) (ys : List S35) (h : stops rm xs y ≠ 0) : putP rm xs (y :: ys) = (0, stops rm xs y, xs) := by
  simp only [putP]
  rw [if_neg h]
set_option maxRecDepth 100000 in
set_option maxHeartbeats 8000000 in
theorem put8 (own : Nat → Nat) (w : World) (g c cap s r : Nat) (rm : Int) (l : List Pr) (h : LaneAt own w g rm false l c cap s r) (ys : List S35) (A : Option Addr) (cc : Nat) (hC : StC k35 own w A ys.length ys) (hl : l.length + ys.length ≤ 800000) (hp : ∀ y ∈ ys, partsR y.f1 ≤ 100000) :
    Calls Try.prog 8 #[.pointer (some ⟨g, 0, none⟩), .slice A ys.length cc] w fun e w' => PutAns own w g rm l ys e w' := by
  obtain ⟨n, hn⟩ : ∃ n, n = ys.length := ⟨_, rfl⟩
  have Hn := Lib.hid hn
  have HC := Lib.hid hC
  have HH := Lib.hid h
  have HP := Lib.hid hp
  have Hl := Lib.hid hl
  have hn9 : n ≤ 900000 := by omega
  rw [← hn]
  clear hC h hp hl hn
  go_enter Try.func8, Try.ntmps8
  go_wp2_with (fail)
  go_loopw [10] (fun v10 wr => ∃ k, k ≤ n ∧ v10 = .int .i64 (k : Nat) ∧ ∃ lk ownr c cap s r, Hid (LaneAt ownr wr g rm false lk c cap s r) ∧ Hid (Upd (· = 1) own w ownr wr) ∧ Hid (lk.length = l.length + k) ∧ Hid (putP rm (l.map (·.1)) ys = ((putP rm (lk.map (·.1)) (ys.drop k)).1 + k, (putP rm (lk.map (·.1)) (ys.drop k)).2))) (fun v10 _ => n - (intOf v10).toNat)
  case atStart => exact ⟨0, Nat.zero_le _, rfl, l, own, c, cap, s, r, HH, Lib.hid (Upd.refl _ _ _), Lib.hid rfl, Lib.hid rfl⟩
  case round =>
    obtain ⟨k, hk, rfl, lk, ownr, c, cap, s, r, HL, HU, HK, HPP⟩ := hrel
    by_cases hlt : k < n
    · obtain ⟨ad, B5, d5, B6, d6, rfl, a0, a1, a2, a3, a4, a5, a6, hl5, hC5, hl6, hC6⟩ := at_T35 (HC.out.upd (S := (· = 1)) (by decide) HU.out).now (k : Int) (by omega) (by rw [← Hn.out]; omega)
      have hmem : rd_T35 ys (k : Int) ∈ ys := getD_mem _ _ _ (by rw [Int.toNat_natCast, ← Hn.out]; exact hlt)
      have hdr : ys.drop k = rd_T35 ys (k : Int) :: ys.drop (k + 1) := by
        rw [List.drop_eq_getElem_cons (by rw [← Hn.out]; exact hlt)]
        unfold rd_T35
        rw [Int.toNat_natCast, List.getD_eq_getElem?_getD, List.getElem?_eq_getElem (by rw [← Hn.out]; exact hlt)]
        rfl
      generalize rd_T35 ys (k : Int) = y at *
      have Hdr := Lib.hid hdr
      have Hpy := Lib.hid (HP.out y hmem)
      rw [Int.toNat_natCast] at a0 a1 a2 a3 a4 a5 a6
      have q3 : (wr.alloc (.cells #[.int .i64 y.f0, .string y.f1.f0, .int .i64 y.f1.f1.f0, .int .i64 y.f1.f1.f1, .string y.f1.f1.f2, .slice B5 y.f1.f1.f3.length d5, .slice B6 y.f1.f2.length d6] 35)).cell? ⟨g, 3, none⟩ = some (.bool false) := blk_at (blk_alloc HL.out.hb _) 3 rfl
      have HLb := Lib.hid (HL.out.upd (S := fun _ => False) (by decide) (by decide) (Upd.box (.cells #[.int .i64 y.f0, .string y.f1.f0, .int .i64 y.f1.f1.f0, .int .i64 y.f1.f1.f1, .string y.f1.f1.f2, .slice B5 y.f1.f1.f3.length d5, .slice B6 y.f1.f2.length d6] 35)))
      have HE := Lib.hid (blk_new wr (.cells #[.int .i64 y.f0, .string y.f1.f0, .int .i64 y.f1.f1.f0, .int .i64 y.f1.f1.f1, .string y.f1.f1.f2, .slice B5 y.f1.f1.f3.length d5, .slice B6 y.f1.f2.length d6] 35))
      have Hb1 : Hid (Below wr.heap.size wr (wr.alloc (.cells #[.int .i64 y.f0, .string y.f1.f0, .int .i64 y.f1.f1.f0, .int .i64 y.f1.f1.f1, .string y.f1.f1.f2, .slice B5 y.f1.f1.f3.length d5, .slice B6 y.f1.f2.length d6] 35))) := Lib.hid ((Below.refl _ _).alloc (Nat.le_refl _) _)
      have HC5 := Lib.hid hC5
      have HC6 := Lib.hid hC6
      have Hl5 := Lib.hid hl5
      have Hl6 := Lib.hid hl6
      clear hmem hdr hC5 hC6 hl5 hl6
      go_upto_region 4 with (fail)
      clear a0 a1 a2 a3 a4 a5 a6
      generalize wr.alloc (.cells #[.int .i64 y.f0, .string y.f1.f0, .int .i64 y.f1.f1.f0, .int .i64 y.f1.f1.f1, .string y.f1.f1.f2, .slice B5 y.f1.f1.f3.length d5, .slice B6 y.f1.f2.length d6] 35) = wb at *
      have e0 : wb.cell? ⟨wr.heap.size, 0, none⟩ = some (.int .i64 y.f0) := blk_at HE.out 0 rfl
      have e1 : wb.cell? ⟨wr.heap.size, 1, none⟩ = some (.string y.f1.f0) := blk_at HE.out 1 rfl
      have e2 : wb.cell? ⟨wr.heap.size, 2, none⟩ = some (.int .i64 y.f1.f1.f0) := blk_at HE.out 2 rfl
      have e3 : wb.cell? ⟨wr.heap.size, 3, none⟩ = some (.int .i64 y.f1.f1.f1) := blk_at HE.out 3 rfl
      have e4 : wb.cell? ⟨wr.heap.size, 4, none⟩ = some (.string y.f1.f1.f2) := blk_at HE.out 4 rfl
      have e5 : wb.cell? ⟨wr.heap.size, 5, none⟩ = some (.slice B5 y.f1.f1.f3.length d5) := blk_at HE.out 5 rfl
      have e6 : wb.cell? ⟨wr.heap.size, 6, none⟩ = some (.slice B6 y.f1.f2.length d6) := blk_at HE.out 6 rfl
      by_cases hneg : y.f0 < 0
      · have k1 : decide (y.f0 < 0) = true := decide_eq_true hneg
        have hst : stops rm (lk.map (·.1)) y = 52 := if_pos hneg
        have Hst := Lib.hid hst
        clear hneg hst
        go_wp2_with (fail)
        go_ret2
        rw [Hdr.out, putP_stop _ _ _ _ (by rw [Hst.out]; decide), Hst.out] at HPP
        refine ⟨lk, by rw [HPP.out], ?_, ownr, c, cap, s, r, HLb.out, HU.out.then (Upd.of_below' Hb1.out (fun _ _ => rfl))⟩
        rw [HPP.out]
        simp
      have k1 : decide (y.f0 < 0) = false := decide_eq_false hneg
      by_cases hst : stops rm (lk.map (·.1)) y = 51
      · have hz : y.f0 = 0 ∧ fullX rm (lk.map (·.1)) = true := by
          unfold stops at hst
          rw [if_neg hneg] at hst
          by_cases hc : y.f0 = 0 ∧ fullX rm (lk.map (·.1)) = true
          · exact hc
          · rw [if_neg hc] at hst; cases hst
        have k2 : (y.f0 == 0) = true := by simp [hz.1]
        have HF := Lib.hid (full17 ownr wb g c cap s r rm lk HLb.out)
        rw [full_map, hz.2] at HF
        have Hst := Lib.hid hst
        clear hneg hst hz
        go_wp2_with (go_at_call 17; refine HF.out.mono ?_; rintro e w2 ⟨rfl, hb2⟩)
        go_ret2
        rw [Hdr.out, putP_stop _ _ _ _ (by rw [Hst.out]; decide), Hst.out] at HPP
        refine ⟨lk, by rw [HPP.out], ?_, ownr, c, cap, s, r, HLb.out.upd (S := fun _ => False) (by decide) (by decide) (Upd.of_below' hb2.out (fun _ _ => rfl)), (HU.out.then (Upd.of_below' Hb1.out (fun _ _ => rfl))).then (Upd.of_below' hb2.out (fun _ _ => rfl))⟩
        rw [HPP.out]
        simp
      have hs0 : stops rm (lk.map (·.1)) y = 0 := by
        unfold stops at hst ⊢
        rw [if_neg hneg] at hst ⊢
        by_cases hc : y.f0 = 0 ∧ fullX rm (lk.map (·.1)) = true
        · rw [if_pos hc] at hst; exact absurd rfl hst
        · rw [if_neg hc]
      have hor : y.f0 ≠ 0 ∨ full rm lk = false := by
        unfold stops at hs0
        rw [if_neg hneg] at hs0
        by_cases hc : y.f0 = 0 ∧ fullX rm (lk.map (·.1)) = true
        · rw [if_pos hc] at hs0; cases hs0
        · rw [full_map]
          by_cases hz : y.f0 = 0
          · exact .inr (by cases hf : fullX rm (lk.map (·.1)) <;> simp_all)
          · exact .inl hz
      have Hs0 := Lib.hid hs0
      have HF := Lib.hid (full17 ownr wb g c cap s r rm lk HLb.out)
      clear hst hs0 hneg
      have HcY : Hid (∀ W : World, PLift (Below wr.heap.size wr W) → Calls Try.prog 27 #[.agg #[.int .i64 y.f0, .string y.f1.f0, .int .i64 y.f1.f1.f0, .int .i64 y.f1.f1.f1, .string y.f1.f1.f2, .slice B5 y.f1.f1.f3.length d5, .slice B6 y.f1.f2.length d6]] W fun e w' => ∃ cs, e = .returned (.agg cs.toArray) ∧ Hid (St k35 (fresh ownr wr 0) w' (cop y) cs) ∧ Hid (Below W.heap.size W w')) := Lib.hid (fun W hW => copied27 ownr (fresh ownr wr 0) y B5 d5 B6 d6 W (Kd.C_below HC5.out hW.down) Hl5.out (Kd.C_below HC6.out hW.down) Hl6.out Hpy.out (fun i hi => fresh_new (Nat.le_trans hW.down.size hi)))
      have HlL : Hid (∀ W cs, Below wr.heap.size wr W → St k35 (fresh ownr wr 0) W (cop y) cs → Calls Try.prog 26 #[.pointer (some ⟨g, 0, none⟩), .agg cs.toArray] W fun e w' => e = .returned (.tuple #[]) ∧ LaneTo (fresh ownr wr 0) W g rm false (lk ++ [(cop y, cs)]) w') := Lib.hid (fun W cs hW hst => lay26 (fresh ownr wr 0) W g c cap s r rm lk (HL.out.upd (S := fun _ => False) (by decide) (by decide) (Upd.of_below hW 0)) (cop y) cs hst (by have h1 := HK.out; have h2 := Hl.out; have h3 := Hn.out; omega))
      rcases hor with hz | hf
      · have k2 : (y.f0 == 0) = false := by simp [hz]
        clear hz HF
        go_wp2_with (first
          | (go_at_call 27; refine (HcY.out _ ⟨Hb1.out⟩).mono ?_; rintro e w4 ⟨cs, rfl, hs4, hb4⟩
             have HB4 : Hid (Below wr.heap.size wr w4) := Lib.hid (Hb1.out.trans (hb4.out.mono Hb1.out.size)))
          | (go_at_call 26; refine (HlL.out _ cs HB4.out hs4.out).mono ?_; rintro e w5 ⟨rfl, own5, c5, cap5, s5, r5, hl5, hu5⟩
             have HL5 := Lib.hid hl5
             have HU5 := Lib.hid (HU.out.then ((Upd.of_below HB4.out 0).then hu5))
             clear hl5 hu5))
        go_roundw
        case rel =>
          refine ⟨k + 1, by omega, by go_num, lk ++ [(cop y, cs)], own5, c5, cap5, s5, r5, HL5, HU5, Lib.hid (by rw [List.length_append, HK.out, List.length_singleton]; omega), Lib.hid ?_⟩
          rw [HPP.out, Hdr.out, putP_cons _ _ _ _ Hs0.out, List.map_append]
          show (_ + 1 + k, _) = (_ + (k + 1), _)
          rw [Nat.add_assoc, Nat.add_comm 1 k]
          rfl
        case measure => simp [intOf]; omega
      · by_cases hz : y.f0 = 0
        · have k2 : (y.f0 == 0) = true := by simp [hz]
          rw [hf] at HF
          clear hz hf
          go_wp2_with (first
            | (go_at_call 17; refine HF.out.mono ?_; rintro e w2 ⟨rfl, hb2⟩
               have Hb2 : Hid (Below wr.heap.size wr w2) := Lib.hid (Hb1.out.trans (hb2.out.mono Hb1.out.size))
               have He2 := Lib.hid (blk_below HE.out hb2.out)
               have f0 : w2.cell? ⟨wr.heap.size, 0, none⟩ = some (.int .i64 y.f0) := blk_at He2.out 0 rfl
               have f1 : w2.cell? ⟨wr.heap.size, 1, none⟩ = some (.string y.f1.f0) := blk_at He2.out 1 rfl
               have f2 : w2.cell? ⟨wr.heap.size, 2, none⟩ = some (.int .i64 y.f1.f1.f0) := blk_at He2.out 2 rfl
               have f3 : w2.cell? ⟨wr.heap.size, 3, none⟩ = some (.int .i64 y.f1.f1.f1) := blk_at He2.out 3 rfl
               have f4 : w2.cell? ⟨wr.heap.size, 4, none⟩ = some (.string y.f1.f1.f2) := blk_at He2.out 4 rfl
               have f5 : w2.cell? ⟨wr.heap.size, 5, none⟩ = some (.slice B5 y.f1.f1.f3.length d5) := blk_at He2.out 5 rfl
               have f6 : w2.cell? ⟨wr.heap.size, 6, none⟩ = some (.slice B6 y.f1.f2.length d6) := blk_at He2.out 6 rfl
               clear hb2)
            | (go_at_call 27; refine (HcY.out _ ⟨Hb2.out⟩).mono ?_; rintro e w4 ⟨cs, rfl, hs4, hb4⟩
               have HB4 : Hid (Below wr.heap.size wr w4) := Lib.hid (Hb2.out.trans (hb4.out.mono Hb2.out.size)))
            | (go_at_call 26; refine (HlL.out _ cs HB4.out hs4.out).mono ?_; rintro e w5 ⟨rfl, own5, c5, cap5, s5, r5, hl5, hu5⟩
               have HL5 := Lib.hid hl5
               have HU5 := Lib.hid (HU.out.then ((Upd.of_below HB4.out 0).then hu5))
               clear hl5 hu5))
          go_roundw
          case rel =>
            refine ⟨k + 1, by omega, by go_num, lk ++ [(cop y, cs)], own5, c5, cap5, s5, r5, HL5, HU5, Lib.hid (by rw [List.length_append, HK.out, List.length_singleton]; omega), Lib.hid ?_⟩
            rw [HPP.out, Hdr.out, putP_cons _ _ _ _ Hs0.out, List.map_append]
            show (_ + 1 + k, _) = (_ + (k + 1), _)
            rw [Nat.add_assoc, Nat.add_comm 1 k]
            rfl
          case measure => simp [intOf]; omega
        · have k2 : (y.f0 == 0) = false := by simp [hz]
          clear hz HF hf
          go_wp2_with (first
            | (go_at_call 27; refine (HcY.out _ ⟨Hb1.out⟩).mono ?_; rintro e w4 ⟨cs, rfl, hs4, hb4⟩
               have HB4 : Hid (Below wr.heap.size wr w4) := Lib.hid (Hb1.out.trans (hb4.out.mono Hb1.out.size)))
            | (go_at_call 26; refine (HlL.out _ cs HB4.out hs4.out).mono ?_; rintro e w5 ⟨rfl, own5, c5, cap5, s5, r5, hl5, hu5⟩
               have HL5 := Lib.hid hl5
               have HU5 := Lib.hid (HU.out.then ((Upd.of_below HB4.out 0).then hu5))
               clear hl5 hu5))
          go_roundw
          case rel =>
            refine ⟨k + 1, by omega, by go_num, lk ++ [(cop y, cs)], own5, c5, cap5, s5, r5, HL5, HU5, Lib.hid (by rw [List.length_append, HK.out, List.length_singleton]; omega), Lib.hid ?_⟩
            rw [HPP.out, Hdr.out, putP_cons _ _ _ _ Hs0.out, List.map_append]
            show (_ + 1 + k, _) = (_ + (k + 1), _)
            rw [Nat.add_assoc, Nat.add_comm 1 k]
            rfl
          case measure => simp [intOf]; omega
    · obtain rfl : k = n := by omega
      go_wp2_with (fail)
      go_ret2
      rw [List.drop_of_length_le (by rw [Hn.out]; exact Nat.le_refl _)] at HPP
      refine ⟨lk, by rw [HPP.out]; rfl, ?_, ownr, c, cap, s, r, HL.out, HU.out⟩
      rw [HPP.out]
      simp [putP]
/-- Put into a lane that has ended: nothing goes in. -/
theorem put8_shut (own : Nat → Nat) (w : World) (g c cap s r : Nat) (rm : Int) (h : LaneAt own w g rm true [] c cap s r) (y : S35) (ys : List S35) (A : Option Addr) (cc : Nat) (hC : Kd.C k35 w A (y :: ys).length (y :: ys)) :
    Calls Try.prog 8 #[.pointer (some ⟨g, 0, none⟩), .slice A (y :: ys).length cc] w fun e w' => e = .returned (.tuple #[.int .i64 0, .int .i64 53]) ∧ Below w.heap.size w w' := by
  obtain ⟨n, hn⟩ : ∃ n, n = (y :: ys).length := ⟨_, rfl⟩
  have hpos : 0 < n := by rw [hn]; simp
  have hmax : n ≤ 9223372036854775807 := by rw [hn]; exact Kd.C_max hC
  have HC := Lib.hid hC
  have HH := Lib.hid h
  have Hn := Lib.hid hn
  rw [← hn]
  clear hn h hC
  go_enter Try.func8, Try.ntmps8
  go_wp2_with (fail)
  go_loopw [10] (fun v10 wr => ∃ k : Nat, v10 = .int .i64 k ∧ Hid (k = 0) ∧ wr = w) (fun v10 _ => n - (intOf v10).toNat)
  case atStart => exact ⟨0, rfl, Lib.hid rfl, rfl⟩
  case round =>
    obtain ⟨k, rfl, hk, rfl⟩ := hrel
    have hkn : k < n := by have := hk.out; omega
    obtain ⟨ad, B5, d5, B6, d6, rfl, a0, a1, a2, a3, a4, a5, a6, -⟩ := at_T35 HC.out (k : Int) (by omega) (by have := Hn.out; omega)
    generalize rd_T35 (y :: ys) (k : Int) = z at *
    rw [Int.toNat_natCast] at a0 a1 a2 a3 a4 a5 a6
    have q3 : (wr.alloc (.cells #[.int .i64 z.f0, .string z.f1.f0, .int .i64 z.f1.f1.f0, .int .i64 z.f1.f1.f1, .string z.f1.f1.f2, .slice B5 z.f1.f1.f3.length d5, .slice B6 z.f1.f2.length d6] 35)).cell? ⟨g, 3, none⟩ = some (.bool true) := blk_at (blk_alloc HH.out.hb _) 3 rfl
    go_wp2_with (fail)
    go_ret2
    exact ⟨by rw [hk.out]; rfl, (Below.refl _ _).alloc (Nat.le_refl _) _⟩
/-- Close: what was left; the lane has ended. -/
def CloseAns (own : Nat → Nat) (w : World) (g : Nat) (rm : Int) (l : List Pr) (e : Ending) (w' : World) : Prop := ∃ own' c cap s r A cc, e = .returned (.slice A l.length cc) ∧ Hid (LaneAt own' w' g rm true [] c cap s r) ∧ Hid (Upd (· = 1) own w own' w') ∧ Hid ((pk k35 own' w').R 35 w' w.heap.size (fun k => own' k = 0) (.slice A l.length cc) l)
set_option maxRecDepth 100000 in
set_option maxHeartbeats 4000000 in
theorem close19 (own : Nat → Nat) (w : World) (g c cap s r : Nat) (rm : Int) (l : List Pr) (h : LaneAt own w g rm false l c cap s r) (hl : l.length ≤ 900000) :
    Calls Try.prog 19 #[.pointer (some ⟨g, 0, none⟩)] w fun e w' => CloseAns own w g rm l e w' := by
  have HH := Lib.hid h
  have q3 : w.cell? ⟨g, 3, none⟩ = some (.bool false) := blk_at h.hb 3 rfl
  have z3 : w.frozen? ⟨g, 3, none⟩ = false := blk_frozen h.hb 3
  have p1 : (w.setCell ⟨g, 3, none⟩ (.bool true)).cell? ⟨g, 1, none⟩ = some (.int .i64 (recs l)) := blk_at (blk_put h.hb 3 _ rfl) 1 rfl
  have z1 : (w.setCell ⟨g, 3, none⟩ (.bool true)).frozen? ⟨g, 1, none⟩ = false := blk_frozen (blk_put h.hb 3 _ rfl) 1
  have HB1 := Lib.hid (blk_put (blk_put h.hb 3 (.bool true) rfl) 1 (.int .i64 0) rfl)
  have hne := blk_chan_ne h.hb h.hc
  have HC1 : Hid (((w.setCell ⟨g, 3, none⟩ (.bool true)).setCell ⟨g, 1, none⟩ (.int .i64 0)).heap[c]? = some (.chan cap (bufOf l) false s r false)) := Lib.hid ((Below.heap_setCell _ _ _ _ (by simp only []; omega)).trans ((Below.heap_setCell _ _ _ _ (by simp only []; omega)).trans h.hc))
  have HU1 : Hid (Upd (· = 1) own w own ((w.setCell ⟨g, 3, none⟩ (.bool true)).setCell ⟨g, 1, none⟩ (.int .i64 0))) := Lib.hid ((Upd.set (p := ⟨g, 3, none⟩) h.og _).then (Upd.set (p := ⟨g, 1, none⟩) h.og _))
  have HS1 : Hid (∀ p ∈ l, St k35 own ((w.setCell ⟨g, 3, none⟩ (.bool true)).setCell ⟨g, 1, none⟩ (.int .i64 0)) p.1 p.2) := Lib.hid (fun p hp => (h.st p hp).upd (by decide) HU1.out)
  have Hsz : Hid (w.heap.size = ((w.setCell ⟨g, 3, none⟩ (.bool true)).setCell ⟨g, 1, none⟩ (.int .i64 0)).heap.size) := Lib.hid (by simp [World.setCell])
  have Hl := Lib.hid hl
  clear h hne hl
  go_enter Try.func19, Try.ntmps19
  go_upto_region 5 with (fail)
  clear q3 z3 p1 z1
  generalize (w.setCell ⟨g, 3, none⟩ (.bool true)).setCell ⟨g, 1, none⟩ (.int .i64 0) = w1 at *
  have HD := Lib.hid (drain31 own w1 g c cap s r _ rm true l HB1.out HC1.out HS1.out (by have := Hl.out; omega))
  go_wp2_with (go_at_call 31; refine HD.out.mono ?_; rintro e w2 ⟨v, rfl, hR, hO, s2, r2, hC2⟩; obtain ⟨Ao, co, rfl⟩ := Kd.R_slice hR.out)
  go_ret
  have hu2 : Upd (· = 1) own w1 (fresh own w1 0) w2 := by
    have h1 : Upd (· = 1) own w1 own w2 := Upd.of_only hO.out HH.out.oc
    exact ⟨h1.os, h1.tape, h1.output, h1.size, fun k hk _ => fresh_old hk, h1.block⟩
  refine ⟨fresh own w1 0, c, cap, s2, r2, Ao, co, rfl, Lib.hid ⟨?_, hC2.out, (fun p hp => by cases hp), ?_, ?_⟩, Lib.hid (HU1.out.then hu2), Lib.hid ?_⟩
  · exact (hO.out.block g (blk_lt HB1.out) (blk_chan_ne HB1.out HC1.out)).trans HB1.out
  · exact (fresh_old (blk_lt HB1.out)).trans HH.out.og
  · exact (fresh_old (blk_lt HC1.out)).trans HH.out.oc
  · rw [Hsz.out]
    exact Kd.R_mono (Kd.R_bound (pk_R hR.out (S := (· = 1)) (by decide) hu2)) (fun k hk => fresh_new hk.2.1)
end Go.Proofs.Ytcbfddhdaamimaa.PLaneFifo
