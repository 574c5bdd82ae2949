/- sameState, sameDelta. -/
import Derived.Test.YtpplnhefpcofoaaZCS
import Derived.Test.YtpplnhefpcofoaaZMS
namespace Go.Proofs.Ytpplnhefpcofoaa.PDeltaJoin
open Go.RowKit Go.Proofs.YtpplnhefpcofoaaW.PrintWords Go.Proofs.YtpplnhefpcofoaaW.PrintLast
set_option linter.unusedVariables false
set_option linter.unusedSimpArgs false

set_option maxRecDepth 100000 in
set_option maxHeartbeats 16000000 in
theorem sameS18 (x y : S24) (A B : Option Addr) (c d : Nat) (w0 w : World) (hA : Kd.C k63 w0 A x.f1.length x.f1) (hB : Kd.C k63 w0 B y.f1.length y.f1) (hW : Below w0.heap.size w0 w) :
    Calls Try.prog 18 #[.agg #[.int .i64 x.f0, .slice A x.f1.length c], .agg #[.int .i64 y.f0, .slice B y.f1.length d]] w fun e w' => SaysB (eqB (x = y)) w e w' := by
  have HL : Hid (∀ W, Below w.heap.size w W → Calls Try.prog 42 #[.slice A x.f1.length c, .slice B y.f1.length d] W fun e w' => SaysB (eqB (x.f1 = y.f1)) W e w') := Lib.hid (fun W h => sameL42 x.f1 y.f1 A B c d w0 W hA hB (hW.trans (h.mono hW.size)))
  obtain ⟨n, hn⟩ : ∃ n, n = x.f1.length := ⟨_, rfl⟩
  obtain ⟨m, hm⟩ : ∃ m, m = y.f1.length := ⟨_, rfl⟩
  rw [← hn, ← hm] at HL ⊢
  obtain ⟨tot, ht⟩ : ∃ t, t = eqB (x = y) := ⟨_, rfl⟩
  have HT := Lib.hid ht
  rw [← ht]
  clear hA hB hW hn hm ht
  have HX : Hid (((w.alloc (.cells #[.int .i64 x.f0, .slice A n c] 24)).alloc (.cells #[.int .i64 y.f0, .slice B m d] 24)).heap[w.heap.size]? = some (.cells #[.int .i64 x.f0, .slice A n c] 24 (0, 0))) := Lib.hid (blk_alloc (blk_new w _) _)
  have HY : Hid (((w.alloc (.cells #[.int .i64 x.f0, .slice A n c] 24)).alloc (.cells #[.int .i64 y.f0, .slice B m d] 24)).heap[w.heap.size + 1]? = some (.cells #[.int .i64 y.f0, .slice B m d] 24 (0, 0))) := Lib.hid (by
    have := blk_new (w.alloc (.cells #[.int .i64 x.f0, .slice A n c] 24)) (.cells #[.int .i64 y.f0, .slice B m d] 24)
    rw [World.size_alloc] at this
    exact this)
  have HB : Hid (Below w.heap.size w ((w.alloc (.cells #[.int .i64 x.f0, .slice A n c] 24)).alloc (.cells #[.int .i64 y.f0, .slice B m d] 24))) := ((Below.refl _ _).alloc (Nat.le_refl _) _).alloc (by simp) _
  go_enter Try.func18, Try.ntmps18
  go_upto_region 1 with (fail)
  generalize ((w.alloc (.cells #[.int .i64 x.f0, .slice A n c] 24)).alloc (.cells #[.int .i64 y.f0, .slice B m d] 24)) = wa at *
  have x0 : wa.cell? ⟨w.heap.size, 0, none⟩ = some (.int .i64 x.f0) := blk_at HX.out 0 rfl
  have x1 : wa.cell? ⟨w.heap.size, 1, none⟩ = some (.slice A n c) := blk_at HX.out 1 rfl
  have y0 : wa.cell? ⟨(w.heap.size + 1), 0, none⟩ = some (.int .i64 y.f0) := blk_at HY.out 0 rfl
  have y1 : wa.cell? ⟨(w.heap.size + 1), 1, none⟩ = some (.slice B m d) := blk_at HY.out 1 rfl
  by_cases hk : x.f0 = y.f0
  rotate_left
  · have HV : Hid (tot = false) := Lib.hid (by rw [HT.out]; exact eqB_false (fun e => hk (by rw [e])))
    have k3 : (x.f0 == y.f0) = false := beq_false_of_ne hk
    clear hk
    go_wp2_with (fail)
    go_ret
    rw [HV.out]
    exact ⟨rfl, HB⟩
  have HV : Hid (tot = eqB (x.f1 = y.f1)) := Lib.hid (by rw [HT.out]; exact eqB_iff ⟨fun e => by rw [e], fun e => by cases x; cases y; simp only at hk e; rw [hk, e]⟩)
  rw [← hk] at y0
  clear hk
  generalize hr : eqB (x.f1 = y.f1) = r at HL HV
  clear hr
  go_wp2_with (go_at_call 42; refine (HL.out _ HB.out).mono ?_; rintro e w1 ⟨rfl, hb1⟩
               have HB1 : Hid (Below w.heap.size w w1) := HB.out.trans (hb1.out.mono HB.out.size)
               clear hb1)
  go_ret
  rw [HV.out]
  exact ⟨rfl, HB1⟩
set_option maxRecDepth 100000 in
set_option maxHeartbeats 16000000 in
theorem sameD19 (x y : S27) (A B A2 B2 : Option Addr) (c d c2 d2 : Nat) (w0 w : World) (hA : Kd.C k63 w0 A x.f1.length x.f1) (hB : Kd.C k63 w0 B y.f1.length y.f1) (hA2 : Kd.C Kd.string w0 A2 x.f2.length x.f2) (hB2 : Kd.C Kd.string w0 B2 y.f2.length y.f2) (hW : Below w0.heap.size w0 w) :
    Calls Try.prog 19 #[.agg #[.int .i64 x.f0, .slice A x.f1.length c, .slice A2 x.f2.length c2], .agg #[.int .i64 y.f0, .slice B y.f1.length d, .slice B2 y.f2.length d2]] w fun e w' => SaysB (eqB (x = y)) w e w' := by
  have HL : Hid (∀ W, Below w.heap.size w W → Calls Try.prog 42 #[.slice A x.f1.length c, .slice B y.f1.length d] W fun e w' => SaysB (eqB (x.f1 = y.f1)) W e w') := Lib.hid (fun W h => sameL42 x.f1 y.f1 A B c d w0 W hA hB (hW.trans (h.mono hW.size)))
  obtain ⟨n, hn⟩ : ∃ n, n = x.f1.length := ⟨_, rfl⟩
  obtain ⟨m, hm⟩ : ∃ m, m = y.f1.length := ⟨_, rfl⟩
  obtain ⟨p, hp⟩ : ∃ p, p = x.f2.length := ⟨_, rfl⟩
  obtain ⟨q, hq⟩ : ∃ q, q = y.f2.length := ⟨_, rfl⟩
  have hpm : p ≤ 9223372036854775807 := by rw [hp]; exact Kd.C_max hA2
  have HA := Lib.hid hA2
  have HBB := Lib.hid hB2
  have HW := Lib.hid hW
  have Hp := Lib.hid hp
  have Hq := Lib.hid hq
  rw [← hn, ← hm] at HL
  rw [← hn, ← hm, ← hp, ← hq]
  obtain ⟨tot, ht⟩ : ∃ t, t = eqB (x = y) := ⟨_, rfl⟩
  have HT := Lib.hid ht
  rw [← ht]
  clear hA hB hA2 hB2 hW hn hm hp hq ht
  have HX : Hid (((w.alloc (.cells #[.int .i64 x.f0, .slice A n c, .slice A2 p c2] 27)).alloc (.cells #[.int .i64 y.f0, .slice B m d, .slice B2 q d2] 27)).heap[w.heap.size]? = some (.cells #[.int .i64 x.f0, .slice A n c, .slice A2 p c2] 27 (0, 0))) := Lib.hid (blk_alloc (blk_new w _) _)
  have HY : Hid (((w.alloc (.cells #[.int .i64 x.f0, .slice A n c, .slice A2 p c2] 27)).alloc (.cells #[.int .i64 y.f0, .slice B m d, .slice B2 q d2] 27)).heap[w.heap.size + 1]? = some (.cells #[.int .i64 y.f0, .slice B m d, .slice B2 q d2] 27 (0, 0))) := Lib.hid (by
    have := blk_new (w.alloc (.cells #[.int .i64 x.f0, .slice A n c, .slice A2 p c2] 27)) (.cells #[.int .i64 y.f0, .slice B m d, .slice B2 q d2] 27)
    rw [World.size_alloc] at this
    exact this)
  have HB : Hid (Below w.heap.size w ((w.alloc (.cells #[.int .i64 x.f0, .slice A n c, .slice A2 p c2] 27)).alloc (.cells #[.int .i64 y.f0, .slice B m d, .slice B2 q d2] 27))) := ((Below.refl _ _).alloc (Nat.le_refl _) _).alloc (by simp) _
  go_enter Try.func19, Try.ntmps19
  go_upto_region 1 with (fail)
  generalize ((w.alloc (.cells #[.int .i64 x.f0, .slice A n c, .slice A2 p c2] 27)).alloc (.cells #[.int .i64 y.f0, .slice B m d, .slice B2 q d2] 27)) = wa at *
  have x0 : wa.cell? ⟨w.heap.size, 0, none⟩ = some (.int .i64 x.f0) := blk_at HX.out 0 rfl
  have x1 : wa.cell? ⟨w.heap.size, 1, none⟩ = some (.slice A n c) := blk_at HX.out 1 rfl
  have x2 : wa.cell? ⟨w.heap.size, 2, none⟩ = some (.slice A2 p c2) := blk_at HX.out 2 rfl
  have y0 : wa.cell? ⟨(w.heap.size + 1), 0, none⟩ = some (.int .i64 y.f0) := blk_at HY.out 0 rfl
  have y1 : wa.cell? ⟨(w.heap.size + 1), 1, none⟩ = some (.slice B m d) := blk_at HY.out 1 rfl
  have y2 : wa.cell? ⟨(w.heap.size + 1), 2, none⟩ = some (.slice B2 q d2) := blk_at HY.out 2 rfl
  by_cases hk : x.f0 = y.f0
  rotate_left
  · have HV : Hid (tot = false) := Lib.hid (by rw [HT.out]; exact eqB_false (fun e => hk (by rw [e])))
    have k3 : (x.f0 == y.f0) = false := beq_false_of_ne hk
    have k4 : (x.f0 != y.f0) = true := by simp [hk]
    clear hk
    go_wp2_with (fail)
    go_ret
    rw [HV.out]
    exact ⟨rfl, HB⟩
  have HE0 := Lib.hid hk
  rw [← hk] at y0 HY
  clear hk
  by_cases hl : p = q
  rotate_left
  · have HV : Hid (tot = false) := Lib.hid (by rw [HT.out]; exact eqB_false (fun e => hl (by rw [Hp.out, Hq.out, e])))
    have k1 : (p == q) = false := beq_false_of_ne hl
    have k3 : ((p : Int) == (q : Int)) = false := beq_false_of_ne (by omega)
    have k4 : ((p : Int) != (q : Int)) = true := by simp; omega
    go_wp2_with (fail)
    go_ret
    rw [HV.out]
    exact ⟨rfl, HB⟩
  subst hl
  generalize hr : eqB (x.f1 = y.f1) = r at HL
  have Hr := Lib.hid hr
  clear hr
  cases r with
  | false =>
    have HV : Hid (tot = false) := Lib.hid (by rw [HT.out]; exact eqB_false (fun e => not_eqB Hr.out (by rw [e])))
    go_wp2_with (go_at_call 42; refine (HL.out _ HB.out).mono ?_; rintro e w1 ⟨rfl, hb1⟩
                 have HB1 : Hid (Below w.heap.size w w1) := HB.out.trans (hb1.out.mono HB.out.size)
                 clear hb1)
    go_ret
    rw [HV.out]
    exact ⟨rfl, HB1⟩
  | true =>
    have HV0 : Hid (tot = eqB (x.f2.drop 0 = y.f2.drop 0)) := Lib.hid (by
      rw [HT.out, List.drop_zero, List.drop_zero]
      exact eqB_iff ⟨fun e => by rw [e], fun e => by have e0 := HE0.out; have e1 := of_eqB Hr.out; cases x; cases y; simp only at e0 e1 e; rw [e0, e1, e]⟩)
    go_wp2_with (go_at_call 42; refine (HL.out _ HB.out).mono ?_; rintro e w1 ⟨rfl, hb1⟩
                 have HB1 : Hid (Below w.heap.size w w1) := HB.out.trans (hb1.out.mono HB.out.size)
                 have HX1 := Lib.hid (blk_below HX.out hb1.out)
                 have HY1 := Lib.hid (blk_below HY.out hb1.out)
                 clear hb1)
    clear x0 x1 x2 y0 y1 y2 HX HY HB HL
    go_loopw [5] (fun v5 wr => ∃ k : Nat, k ≤ p ∧ v5 = .int .i64 k ∧ Hid (tot = eqB (x.f2.drop k = y.f2.drop k)) ∧ Hid (Below w.heap.size w wr) ∧ Hid (wr.heap[w.heap.size]? = some (.cells #[.int .i64 x.f0, .slice A n c, .slice A2 p c2] 27 (0, 0))) ∧ Hid (wr.heap[w.heap.size + 1]? = some (.cells #[.int .i64 x.f0, .slice B m d, .slice B2 p d2] 27 (0, 0)))) (fun v5 _ => p - (intOf v5).toNat)
    case atStart => exact ⟨0, Nat.zero_le _, rfl, HV0, HB1, HX1, HY1⟩
    case round =>
      clear HV0 HB1 HX1 HY1
      obtain ⟨k, hk, rfl, HVk, HBk, HXk, HYk⟩ := hrel
      by_cases hlt : k < p
      rotate_left
      · obtain rfl : p = k := by omega
        have HE : Hid (tot = true) := Lib.hid (by rw [HVk.out, List.drop_eq_nil_of_le (by rw [← Hp.out]; exact Nat.le_refl _), List.drop_eq_nil_of_le (by rw [← Hq.out]; exact Nat.le_refl _)]; exact eqB_true rfl)
        have b3 : wr.cell? ⟨w.heap.size, 2, none⟩ = some (.slice A2 p c2) := blk_at HXk.out 2 rfl
        go_wp2_with (fail)
        go_ret
        rw [HE.out]
        exact ⟨rfl, HBk⟩
      obtain ⟨ad, hA3, e0⟩ := at_str HA.out k (by rw [← Hp.out]; exact hlt)
      obtain ⟨bd, hB3, p0⟩ := at_str HBB.out k (by rw [← Hq.out]; exact hlt)
      subst hA3
      subst hB3
      have hdr := fun r => drop_step (r := r) (⟨#[]⟩ : ByteArray) (k := k) (by rw [← Hp.out]; omega) (by rw [← Hq.out]; omega) HVk.out
      generalize x.f2.getD k ⟨#[]⟩ = u at *
      generalize y.f2.getD k ⟨#[]⟩ = v at *
      have HWk : Hid (Below w0.heap.size w0 wr) := HW.out.trans (HBk.out.mono HW.out.size)
      replace e0 := pw_cell_below HWk.out e0
      replace p0 := pw_cell_below HWk.out p0
      have HDR := Lib.hid hdr
      have b2 : wr.cell? ⟨w.heap.size, 2, none⟩ = some (.slice (some ad) p c2) := blk_at HXk.out 2 rfl
      have b6 : wr.cell? ⟨w.heap.size + 1, 2, none⟩ = some (.slice (some bd) p d2) := blk_at HYk.out 2 rfl
      have i0 : (0 : Int) ≤ (k : Int) := by omega
      have i1 : (k : Int) < (p : Int) := by omega
      clear hdr
      go_upto_region 6 with (fail)
      refine start_ (n := 11) (S := (fun w' => w'.cell? ⟨w.heap.size, 2, none⟩ = some (.slice (some ad) p c2) ∧ w'.cell? ⟨w.heap.size + 1, 2, none⟩ = some (.slice (some bd) p d2) ∧ w'.cell? (ad.add k) = some (.string u) ∧ w'.cell? (bd.add k) = some (.string v))) (ds := []) #[false, false, false, false, false, false, false, false, false, false, false] (by kernel_rfl) rfl rfl ⟨b2, b6, e0, p0⟩ (fun hHeld => ?_)
      have HBd : Hid (Below wr.heap.size wr wr.drew) := (Below.refl _ _).drew
      generalize wr.drew = W at hHeld HBd ⊢
      refine pure_ (i := 0) (N := some 35) (v := ?_) (a' := ?_) #[true, false, false, false, false, false, false, false, false, false, false] rfl rfl (by kernel_rfl) (fun _ _ _ h => h) (Or.inl ⟨by rfl, ?_⟩) ?_ ?_
      rotate_left
      · intro w'
        go_simp
        with_reducible rfl
      rotate_left
      · go_simp
        rfl
      refine take_ (i := 1) (N := some 36) (v := ?_) (a' := ?_) #[true, true, false, false, false, false, false, false, false, false, false] rfl rfl (by kernel_rfl) (fun _ _ _ h => h) (Or.inl ⟨by rfl, ?_⟩) hHeld ?_ ?_
      rotate_left
      · rintro w' ⟨s0, s1, s2, s3⟩
        go_simp
        with_reducible rfl
      rotate_left
      · go_simp
        rfl
      refine pure_ (i := 2) (N := some 37) (v := ?_) (a' := ?_) #[true, true, true, false, false, false, false, false, false, false, false] rfl rfl (by kernel_rfl) (fun _ _ _ h => h) (Or.inl ⟨by rfl, ?_⟩) ?_ ?_
      rotate_left
      · intro w'
        go_simp
        with_reducible rfl
      rotate_left
      · go_simp
        rfl
      refine pure_ (i := 3) (N := some 38) (v := ?_) (a' := ?_) #[true, true, true, true, false, false, false, false, false, false, false] rfl rfl (by kernel_rfl) (fun _ _ _ h => h) (Or.inl ⟨by rfl, ?_⟩) ?_ ?_
      rotate_left
      · intro w'
        go_simp
        with_reducible rfl
      rotate_left
      · go_simp
        rfl
      refine take_ (i := 4) (N := some 39) (v := ?_) (a' := ?_) #[true, true, true, true, true, false, false, false, false, false, false] rfl rfl (by kernel_rfl) (fun _ _ _ h => h) (Or.inl ⟨by rfl, ?_⟩) hHeld ?_ ?_
      rotate_left
      · rintro w' ⟨s0, s1, s2, s3⟩
        go_simp
        with_reducible rfl
      rotate_left
      · go_simp
        rfl
      refine pure_ (i := 5) (N := some 40) (v := ?_) (a' := ?_) #[true, true, true, true, true, true, false, false, false, false, false] rfl rfl (by kernel_rfl) (fun _ _ _ h => h) (Or.inl ⟨by rfl, ?_⟩) ?_ ?_
      rotate_left
      · intro w'
        go_simp
        with_reducible rfl
      rotate_left
      · go_simp
        rfl
      refine take_ (i := 6) (N := some 41) (v := ?_) (a' := ?_) #[true, true, true, true, true, true, true, false, false, false, false] rfl rfl (by kernel_rfl) (fun _ _ _ h => h) (Or.inl ⟨by rfl, ?_⟩) hHeld ?_ ?_
      rotate_left
      · rintro w' ⟨s0, s1, s2, s3⟩
        go_simp
        with_reducible rfl
      rotate_left
      · go_simp
        rfl
      refine pure_ (i := 7) (N := some 42) (v := ?_) (a' := ?_) #[true, true, true, true, true, true, true, true, false, false, false] rfl rfl (by kernel_rfl) (fun _ _ _ h => h) (Or.inl ⟨by rfl, ?_⟩) ?_ ?_
      rotate_left
      · intro w'
        go_simp
        with_reducible rfl
      rotate_left
      · go_simp
        rfl
      refine pure_ (i := 8) (N := some 43) (v := ?_) (a' := ?_) #[true, true, true, true, true, true, true, true, true, false, false] rfl rfl (by kernel_rfl) (fun _ _ _ h => h) (Or.inl ⟨by rfl, ?_⟩) ?_ ?_
      rotate_left
      · intro w'
        go_simp
        with_reducible rfl
      rotate_left
      · go_simp
        rfl
      refine take_ (i := 9) (N := some 44) (v := ?_) (a' := ?_) #[true, true, true, true, true, true, true, true, true, true, false] rfl rfl (by kernel_rfl) (fun _ _ _ h => h) (Or.inl ⟨by rfl, ?_⟩) hHeld ?_ ?_
      rotate_left
      · rintro w' ⟨s0, s1, s2, s3⟩
        go_simp
        with_reducible rfl
      rotate_left
      · go_simp
        rfl
      refine pure_ (i := 10) (N := some 45) (v := ?_) (a' := ?_) #[true, true, true, true, true, true, true, true, true, true, true] rfl rfl (by kernel_rfl) (fun _ _ _ h => h) (Or.inl ⟨by rfl, ?_⟩) ?_ ?_
      rotate_left
      · intro w'
        go_simp
        with_reducible rfl
      rotate_left
      · go_simp
        rfl
      refine done_ (by kernel_rfl) ?_
      have HB2 : Hid (Below w.heap.size w W) := Lib.hid (HBk.out.trans (HBd.out.mono HBk.out.size))
      have HX2 := Lib.hid (blk_below HXk.out HBd.out)
      have HY2 := Lib.hid (blk_below HYk.out HBd.out)
      clear e0 p0 b2 b6 i0 i1 hHeld
      generalize hbb : (u.toList == v.toList) = bb
      cases bb with
      | true =>
        have huv : u = v := Classical.byContradiction fun h => text_ne h (eq_of_beq hbb)
        have HV2 : Hid (tot = eqB (x.f2.drop (k + 1) = y.f2.drop (k + 1))) := Lib.hid (by have := HDR.out true (eqB_true huv); rw [Bool.true_and] at this; exact this)
        clear huv hbb
        go_wp2_with (fail)
        go_roundw
        case rel => exact ⟨k + 1, by omega, by go_num, HV2, HB2, HX2, HY2⟩
        case measure => simp [intOf]; omega
      | false =>
        have huv : ¬ u = v := fun e => by rw [e, beq_self_eq_true] at hbb; cases hbb
        have HV2 : Hid (tot = false) := Lib.hid (by have := HDR.out false (eqB_false huv); rw [Bool.false_and] at this; exact this)
        clear huv hbb
        go_wp2_with (fail)
        go_ret
        rw [HV2.out]
        exact ⟨rfl, HB2⟩
end Go.Proofs.Ytpplnhefpcofoaa.PDeltaJoin
