/- The reference's same of valid cells. -/
import Derived.Test.YtpplnhefpcofoaaZQO
namespace Go.Proofs.Ytpplnhefpcofoaa.PDeltaJoin
open Go.RowKit Go.Proofs.YtpplnhefpcofoaaW.PrintWords Go.Proofs.YtpplnhefpcofoaaW.PrintLast
set_option linter.unusedVariables false
set_option linter.unusedSimpArgs false

/-- A value that Check lets pass, of few parts. -/
def OkV (z : S87) : Prop := Wf z ∧ (chkV z 0 0).1 = 0 ∧ (partsF z).length ≤ 100000
theorem eqB_drop (l k : List S87) (i : Nat) (hl : i < l.length) (hk : i < k.length) : eqB (l.drop i = k.drop i) = if eqB (l.getD i z87 = k.getD i z87) = true then eqB (l.drop (i + 1) = k.drop (i + 1)) else false := by
  have e1 : l.getD i z87 = l[i] := by simp [List.getD_eq_getElem?_getD, List.getElem?_eq_getElem hl]
  have e2 : k.getD i z87 = k[i] := by simp [List.getD_eq_getElem?_getD, List.getElem?_eq_getElem hk]
  rw [e1, e2, List.drop_eq_getElem_cons hl, List.drop_eq_getElem_cons hk]
  by_cases h : l[i] = k[i]
  · rw [if_pos (eqB_true h)]
    exact eqB_iff ⟨fun e => by injection e, fun e => by rw [h, e]⟩
  · rw [if_neg (by rw [eqB_false h]; simp)]
    exact eqB_false (fun e => h (by injection e))
set_option maxRecDepth 100000 in
set_option maxHeartbeats 16000000 in
theorem rsame46 (x y : S63) (A B : Option Addr) (c d : Nat) (w0 w : World) (hA : Kd.C k87 w0 A x.f1.length x.f1) (hB : Kd.C k87 w0 B y.f1.length y.f1) (hW : Below w0.heap.size w0 w) (hx : ∀ z ∈ x.f1, OkV z) (hy : ∀ z ∈ y.f1, OkV z) :
    Calls Try.prog 46 #[.agg #[.string x.f0, .slice A x.f1.length c], .agg #[.string y.f0, .slice B y.f1.length d]] w fun e w' => SaysB (eqB (x = y)) w e w' := by
  obtain ⟨n, hn⟩ : ∃ n, n = x.f1.length := ⟨_, rfl⟩
  obtain ⟨m, hm⟩ : ∃ m, m = y.f1.length := ⟨_, rfl⟩
  have HA := Lib.hid hA
  have HBB := Lib.hid hB
  have HW := Lib.hid hW
  have Hn := Lib.hid hn
  have Hm := Lib.hid hm
  have HOX := Lib.hid hx
  have HOY := Lib.hid hy
  have hnm : n ≤ 9223372036854775807 := by rw [hn]; exact Kd.C_max hA
  rw [← hn, ← hm]
  clear hA hB hW hx hy hn hm
  have HX : Hid (((w.alloc (.cells #[.string x.f0, .slice A n c] 63)).alloc (.cells #[.string y.f0, .slice B m d] 63)).heap[w.heap.size]? = some (.cells #[.string x.f0, .slice A n c] 63 (0, 0))) := Lib.hid (blk_alloc (blk_new w _) _)
  have HY : Hid (((w.alloc (.cells #[.string x.f0, .slice A n c] 63)).alloc (.cells #[.string y.f0, .slice B m d] 63)).heap[w.heap.size + 1]? = some (.cells #[.string y.f0, .slice B m d] 63 (0, 0))) := Lib.hid (by
    have := blk_new (w.alloc (.cells #[.string x.f0, .slice A n c] 63)) (.cells #[.string y.f0, .slice B m d] 63)
    rw [World.size_alloc] at this
    exact this)
  have HB : Hid (Below w.heap.size w ((w.alloc (.cells #[.string x.f0, .slice A n c] 63)).alloc (.cells #[.string y.f0, .slice B m d] 63))) := ((Below.refl _ _).alloc (Nat.le_refl _) _).alloc (by simp) _
  go_enter Try.func46, Try.ntmps46
  go_upto_region 1 with (fail)
  generalize ((w.alloc (.cells #[.string x.f0, .slice A n c] 63)).alloc (.cells #[.string y.f0, .slice B m d] 63)) = wa at *
  have x0 : wa.cell? ⟨w.heap.size, 0, none⟩ = some (.string x.f0) := blk_at HX.out 0 rfl
  have x1 : wa.cell? ⟨w.heap.size, 1, none⟩ = some (.slice A n c) := blk_at HX.out 1 rfl
  have y0 : wa.cell? ⟨(w.heap.size + 1), 0, none⟩ = some (.string y.f0) := blk_at HY.out 0 rfl
  have y1 : wa.cell? ⟨(w.heap.size + 1), 1, none⟩ = some (.slice B m d) := blk_at HY.out 1 rfl
  by_cases hk : x.f0 = y.f0
  rotate_left
  · have HV : Hid (eqB (x = y) = false) := Lib.hid (eqB_false (fun e => hk (by rw [e])))
    have k3 : ¬ x.f0.toList = y.f0.toList := fun e => hk (by
      rw [ByteArray.toList_eq, ByteArray.toList_eq] at e
      generalize x.f0 = a at *
      generalize y.f0 = b at *
      obtain ⟨⟨a⟩⟩ := a
      obtain ⟨⟨b⟩⟩ := b
      simp at e
      rw [e])
    have k4 : (x.f0.toList == y.f0.toList) = false := beq_eq_false_iff_ne.2 k3
    clear hk
    go_wp2_with (fail)
    go_ret
    rw [HV.out]
    exact ⟨rfl, HB⟩
  have HV0 : Hid (eqB (x = y) = eqB (x.f1 = y.f1)) := Lib.hid (eqB_iff ⟨fun e => by rw [e], fun e => by cases x; cases y; simp only at hk e; rw [hk, e]⟩)
  rw [← hk] at y0
  clear hk
  by_cases hl : n = m
  rotate_left
  · have HV : Hid (eqB (x = y) = false) := Lib.hid (by
      rw [HV0.out]
      exact eqB_false (fun e => hl (by rw [Hn.out, Hm.out, e])))
    have k1 : (n == m) = false := beq_false_of_ne hl
    have k3 : ((n : Int) == (m : Int)) = false := beq_false_of_ne (by omega)
    have k4 : ((n : Int) != (m : Int)) = true := by simp; omega
    go_wp2_with (fail)
    go_ret
    rw [HV.out]
    exact ⟨rfl, HB⟩
  subst hl
  go_wp2_with (fail)
  clear x0 x1 y0 y1
  go_loopw [5] (fun v5 wr => ∃ k : Nat, k ≤ n ∧ v5 = .int .i64 k ∧ Hid (eqB (x = y) = eqB (x.f1.drop k = y.f1.drop k)) ∧ Hid (Below w.heap.size w wr) ∧ Hid (wr.heap[w.heap.size]? = some (.cells #[.string x.f0, .slice A n c] 63 (0, 0))) ∧ Hid (wr.heap[w.heap.size + 1]? = some (.cells #[.string y.f0, .slice B n d] 63 (0, 0)))) (fun v5 _ => n - (intOf v5).toNat)
  case atStart => exact ⟨0, Nat.zero_le _, rfl, HV0, HB, HX, HY⟩
  case round =>
    clear HV0 HB HX HY
    obtain ⟨k, hk, rfl, HVk, HBk, HXk, HYk⟩ := hrel
    have b3 : wr.cell? ⟨w.heap.size, 1, none⟩ = some (.slice A n c) := blk_at HXk.out 1 rfl
    by_cases hlt : k < n
    rotate_left
    · obtain rfl : n = k := by omega
      have HE : Hid (eqB (x = y) = true) := Lib.hid (by rw [HVk.out, List.drop_eq_nil_of_le (by rw [← Hn.out]; exact Nat.le_refl _), List.drop_eq_nil_of_le (by rw [← Hm.out]; exact Nat.le_refl _)]; exact eqB_true rfl)
      go_wp2_with (fail)
      go_ret
      rw [HE.out]
      exact ⟨rfl, HBk⟩
    obtain ⟨ad, A3, c3, hA3, e0, e1, e2, e3, hl3, hC3⟩ := at_T87 HA.out (k : Int) (by omega) (by rw [← Hn.out]; omega)
    obtain ⟨bd, B3, d3, hB3, p0, p1, p2, p3, hl4, hC4⟩ := at_T87 HBB.out (k : Int) (by omega) (by rw [← Hm.out]; omega)
    subst hA3
    subst hB3
    have hm1 := HOX.out _ (getD_mem x.f1 z87 k (by rw [← Hn.out]; exact hlt))
    have hm2 := HOY.out _ (getD_mem y.f1 z87 k (by rw [← Hm.out]; exact hlt))
    have hdr := eqB_drop x.f1 y.f1 k (by rw [← Hn.out]; omega) (by rw [← Hm.out]; omega)
    have hx1 : x.f1.getD k z87 = rd_T87 x.f1 (k : Int) := by unfold rd_T87; rw [Int.toNat_natCast]
    have hx2 : y.f1.getD k z87 = rd_T87 y.f1 (k : Int) := by unfold rd_T87; rw [Int.toNat_natCast]
    rw [hx1] at hdr hm1
    rw [hx2] at hdr hm2
    clear hx1 hx2
    generalize rd_T87 x.f1 (k : Int) = u at *
    generalize rd_T87 y.f1 (k : Int) = v at *
    rw [Int.toNat_natCast] at e0 e1 e2 e3 p0 p1 p2 p3
    have HWk : Hid (Below w0.heap.size w0 wr) := HW.out.trans (HBk.out.mono HW.out.size)
    replace e0 := pw_cell_below HWk.out e0
    replace e1 := pw_cell_below HWk.out e1
    replace e2 := pw_cell_below HWk.out e2
    replace e3 := pw_cell_below HWk.out e3
    replace p0 := pw_cell_below HWk.out p0
    replace p1 := pw_cell_below HWk.out p1
    replace p2 := pw_cell_below HWk.out p2
    replace p3 := pw_cell_below HWk.out p3
    have HYY := Lib.hid (compare57v u v A3 B3 c3 d3 w0 wr.drew hC3 hC4 HWk.out.drew hm1.1 hm2.1 hm1.2.1 hm2.2.1 hm1.2.2 hm2.2.2)
    have HDR := Lib.hid hdr
    have b7 : wr.cell? ⟨w.heap.size + 1, 1, none⟩ = some (.slice (some bd) n d) := blk_at HYk.out 1 rfl
    have i0 : (0 : Int) ≤ (k : Int) := by omega
    have i1 : (k : Int) < (n : Int) := by omega
    clear hm1 hm2 hdr hC3 hC4 hl3 hl4
    go_upto_region 6 with (fail)
    refine start_ (n := 12) (S := (fun w' => w'.cell? ⟨w.heap.size, 1, none⟩ = some (.slice (some ad) n c) ∧ w'.cell? ⟨w.heap.size + 1, 1, none⟩ = some (.slice (some bd) n d) ∧ w'.cell? (ad.add (k * 4)) = some (.int .i64 u.f0) ∧ w'.cell? ⟨(ad.add (k * 4)).block, (ad.add (k * 4)).off + 1, none⟩ = some (.int .i64 u.f1) ∧ w'.cell? ⟨(ad.add (k * 4)).block, (ad.add (k * 4)).off + 2, none⟩ = some (.string u.f2) ∧ w'.cell? ⟨(ad.add (k * 4)).block, (ad.add (k * 4)).off + 3, none⟩ = some (.slice A3 u.f3.length c3) ∧ w'.cell? (bd.add (k * 4)) = some (.int .i64 v.f0) ∧ w'.cell? ⟨(bd.add (k * 4)).block, (bd.add (k * 4)).off + 1, none⟩ = some (.int .i64 v.f1) ∧ w'.cell? ⟨(bd.add (k * 4)).block, (bd.add (k * 4)).off + 2, none⟩ = some (.string v.f2) ∧ w'.cell? ⟨(bd.add (k * 4)).block, (bd.add (k * 4)).off + 3, none⟩ = some (.slice B3 v.f3.length d3))) (ds := [10]) #[false, false, false, false, false, false, false, false, false, false, false, false] (by kernel_rfl) rfl rfl ⟨b3, b7, e0, e1, e2, e3, p0, p1, p2, p3⟩ (fun hHeld => ?_)
    refine pure_ (i := 0) (N := some 27) (v := ?_) (a' := ?_) #[true, false, false, false, false, false, false, false, false, false, false, false] rfl rfl (by kernel_rfl) (fun _ _ _ h => h) (Or.inl ⟨by rfl, ?_⟩) ?_ ?_
    rotate_left
    · intro w'
      go_simp
      with_reducible rfl
    rotate_left
    · go_simp
      rfl
    refine take_ (i := 1) (N := some 28) (v := ?_) (a' := ?_) #[true, true, false, false, false, false, false, false, false, false, false, false] rfl rfl (by kernel_rfl) (fun _ _ _ h => h) (Or.inl ⟨by rfl, ?_⟩) hHeld ?_ ?_
    rotate_left
    · rintro w' ⟨s0, s1, s2, s3, s4, s5, s6, s7, s8, s9⟩
      go_simp
      with_reducible rfl
    rotate_left
    · go_simp
      rfl
    refine pure_ (i := 2) (N := some 29) (v := ?_) (a' := ?_) #[true, true, true, false, false, false, false, false, false, false, false, false] rfl rfl (by kernel_rfl) (fun _ _ _ h => h) (Or.inl ⟨by rfl, ?_⟩) ?_ ?_
    rotate_left
    · intro w'
      go_simp
      with_reducible rfl
    rotate_left
    · go_simp
      rfl
    refine pure_ (i := 3) (N := some 30) (v := ?_) (a' := ?_) #[true, true, true, true, false, false, false, false, false, false, false, false] rfl rfl (by kernel_rfl) (fun _ _ _ h => h) (Or.inl ⟨by rfl, ?_⟩) ?_ ?_
    rotate_left
    · intro w'
      go_simp
      with_reducible rfl
    rotate_left
    · go_simp
      rfl
    refine take_ (i := 4) (N := some 31) (v := ?_) (a' := ?_) #[true, true, true, true, true, false, false, false, false, false, false, false] rfl rfl (by kernel_rfl) (fun _ _ _ h => h) (Or.inl ⟨by rfl, ?_⟩) hHeld ?_ ?_
    rotate_left
    · rintro w' ⟨s0, s1, s2, s3, s4, s5, s6, s7, s8, s9⟩
      go_simp
      with_reducible rfl
    rotate_left
    · go_simp
      rfl
    refine pure_ (i := 5) (N := some 32) (v := ?_) (a' := ?_) #[true, true, true, true, true, true, false, false, false, false, false, false] rfl rfl (by kernel_rfl) (fun _ _ _ h => h) (Or.inl ⟨by rfl, ?_⟩) ?_ ?_
    rotate_left
    · intro w'
      go_simp
      with_reducible rfl
    rotate_left
    · go_simp
      rfl
    refine take_ (i := 6) (N := some 33) (v := ?_) (a' := ?_) #[true, true, true, true, true, true, true, false, false, false, false, false] rfl rfl (by kernel_rfl) (fun _ _ _ h => h) (Or.inl ⟨by rfl, ?_⟩) hHeld ?_ ?_
    rotate_left
    · rintro w' ⟨s0, s1, s2, s3, s4, s5, s6, s7, s8, s9⟩
      go_simp
      with_reducible rfl
    rotate_left
    · go_simp
      rfl
    refine pure_ (i := 7) (N := some 34) (v := ?_) (a' := ?_) #[true, true, true, true, true, true, true, true, false, false, false, false] rfl rfl (by kernel_rfl) (fun _ _ _ h => h) (Or.inl ⟨by rfl, ?_⟩) ?_ ?_
    rotate_left
    · intro w'
      go_simp
      with_reducible rfl
    rotate_left
    · go_simp
      rfl
    refine pure_ (i := 8) (N := some 35) (v := ?_) (a' := ?_) #[true, true, true, true, true, true, true, true, true, false, false, false] rfl rfl (by kernel_rfl) (fun _ _ _ h => h) (Or.inl ⟨by rfl, ?_⟩) ?_ ?_
    rotate_left
    · intro w'
      go_simp
      with_reducible rfl
    rotate_left
    · go_simp
      rfl
    refine take_ (i := 9) (N := some 36) (v := ?_) (a' := ?_) #[true, true, true, true, true, true, true, true, true, true, false, false] rfl rfl (by kernel_rfl) (fun _ _ _ h => h) (Or.inl ⟨by rfl, ?_⟩) hHeld ?_ ?_
    rotate_left
    · rintro w' ⟨s0, s1, s2, s3, s4, s5, s6, s7, s8, s9⟩
      go_simp
      with_reducible rfl
    rotate_left
    · go_simp
      rfl
    refine last_ (i := 10) (N := some 37) #[true, true, true, true, true, true, true, true, true, true, true, false] rfl rfl (by kernel_rfl) (by decide) (fun K hK => ?_)
    refine goes_ Try.func57 (by kernel_rfl) rfl #[.agg #[.int .i64 u.f0, .int .i64 u.f1, .string u.f2, .slice A3 u.f3.length c3], .agg #[.int .i64 v.f0, .int .i64 v.f1, .string v.f2, .slice B3 v.f3.length d3]] (by rfl) rfl rfl (by simp only [List.map_toArray, List.map_cons, List.map_nil]; rfl) ?_
    refine HYY.out.mono ?_
    rintro e w2 ⟨r, rfl, hr, hb2⟩
    refine ⟨_, rfl, ?_⟩
    refine hK.out _ _ ?_
    clear hK K hHeld
    have HR1 := Lib.hid hr
    have HB2 : Hid (Below w.heap.size w w2) := Lib.hid (HBk.out.trans (((Below.refl _ wr).drew.trans hb2.out).mono HBk.out.size))
    have HX2 := Lib.hid (blk_below HXk.out ((Below.refl _ wr).drew.trans hb2.out))
    have HX3 := Lib.hid (blk_below HYk.out ((Below.refl _ wr).drew.trans hb2.out))
    clear hr hb2
    refine norm_ (a' := ?_) ?_ ?_
    rotate_left
    · show Act.put _ (some 37) _ = _
      go_simp
      rfl
    refine pure_ (i := 11) (N := some 38) (v := ?_) (a' := ?_) #[true, true, true, true, true, true, true, true, true, true, true, true] rfl rfl (by kernel_rfl) (fun _ _ _ h => h) (Or.inl ⟨by rfl, ?_⟩) ?_ ?_
    rotate_left
    · intro w'
      go_simp
      with_reducible rfl
    rotate_left
    · go_simp
      rfl
    refine done_ (by kernel_rfl) ?_
    clear e0 e1 e2 e3 p0 p1 p2 p3 b3 b7 i0 i1
    by_cases hr0 : r = 0
    · have HV2 : Hid (eqB (x = y) = eqB (x.f1.drop (k + 1) = y.f1.drop (k + 1))) := Lib.hid (by rw [HVk.out, HDR.out, if_pos (by rw [← HR1.out, hr0]; rfl)])
      subst hr0
      go_wp2_with (fail)
      go_roundw
      case rel => exact ⟨k + 1, by omega, by go_num, HV2, HB2, HX2, HX3⟩
      case measure => simp [intOf]; omega
    · have HV2 : Hid (eqB (x = y) = false) := Lib.hid (by rw [HVk.out, HDR.out, if_neg (fun e => hr0 (by rw [← HR1.out] at e; exact eq_of_beq e))])
      have k1 : (r == 0) = false := beq_false_of_ne hr0
      have k2 : (r != 0) = true := by simp [hr0]
      clear hr0
      go_wp2_with (fail)
      go_ret
      rw [HV2.out]
      exact ⟨rfl, HB2⟩
end Go.Proofs.Ytpplnhefpcofoaa.PDeltaJoin
