/- The statements' comparisons: just of two that are the same they say yes. -/
import Derived.Test.YtpplnhefpcofoaaZSB
namespace Go.Proofs.Ytpplnhefpcofoaa.PDeltaJoin
open Go.RowKit Go.Proofs.YtpplnhefpcofoaaW.PrintWords Go.Proofs.YtpplnhefpcofoaaW.PrintLast
set_option linter.unusedVariables false
set_option linter.unusedSimpArgs false

noncomputable def eqB (p : Prop) : Bool := @decide p (Classical.propDecidable p)
theorem eqB_true {p : Prop} (h : p) : eqB p = true := by unfold eqB; simp [h]
theorem eqB_false {p : Prop} (h : ¬ p) : eqB p = false := by unfold eqB; simp [h]
theorem eqB_iff {p q : Prop} (h : p ↔ q) : eqB p = eqB q := by rw [propext h]
theorem of_eqB {p : Prop} (h : eqB p = true) : p := by
  by_cases hp : p
  · exact hp
  · rw [eqB_false hp] at h; cases h
theorem not_eqB {p : Prop} (h : eqB p = false) : ¬ p := fun hp => by rw [eqB_true hp] at h; cases h
theorem text_ne {a b : ByteArray} (h : ¬ a = b) : ¬ a.toList = b.toList := fun e => h (by
  rw [ByteArray.toList_eq, ByteArray.toList_eq] at e
  obtain ⟨⟨a⟩⟩ := a
  obtain ⟨⟨b⟩⟩ := b
  simp at e
  rw [e])
theorem drop_eq {α : Type} {l m : List α} (z : α) {k : Nat} (h1 : k < l.length) (h2 : k < m.length) : (l.drop k = m.drop k) ↔ (l.getD k z = m.getD k z ∧ l.drop (k + 1) = m.drop (k + 1)) := by
  rw [List.drop_eq_getElem_cons h1, List.drop_eq_getElem_cons h2, List.cons.injEq]
  simp [List.getD_eq_getElem?_getD, List.getElem?_eq_getElem h1, List.getElem?_eq_getElem h2]
theorem drop_step {α : Type} {l m : List α} (z : α) {k : Nat} (h1 : k < l.length) (h2 : k < m.length) {b r : Bool} (hb : b = eqB (l.drop k = m.drop k)) (hr : eqB (l.getD k z = m.getD k z) = r) : b = (r && eqB (l.drop (k + 1) = m.drop (k + 1))) := by
  rw [hb, eqB_iff (drop_eq z h1 h2)]
  cases r with
  | true => rw [Bool.true_and]; exact eqB_iff ⟨fun h => h.2, fun h => ⟨of_eqB hr, h⟩⟩
  | false => rw [Bool.false_and]; exact eqB_false (fun h => not_eqB hr h.1)
set_option maxRecDepth 100000 in
set_option maxHeartbeats 16000000 in
theorem sameV60 : ∀ (N : Nat) (x y : S87), SizeOf.sizeOf x < N → ∀ (A B : Option Addr) (c d : Nat) (w0 w : World), Kd.C k87 w0 A x.f3.length x.f3 → Kd.C k87 w0 B y.f3.length y.f3 → Below w0.heap.size w0 w →
    Calls Try.prog 60 #[.agg #[.int .i64 x.f0, .int .i64 x.f1, .string x.f2, .slice A x.f3.length c], .agg #[.int .i64 y.f0, .int .i64 y.f1, .string y.f2, .slice B y.f3.length d]] w fun e w' => SaysB (eqB (x = y)) w e w' := by
  intro N
  induction N with
  | zero => intro x y h; cases x; simp at h
  | succ N ih =>
    intro x y hN A B c d w0 w hA hB hW
    obtain ⟨n, hn⟩ : ∃ n, n = x.f3.length := ⟨_, rfl⟩
    obtain ⟨m, hm⟩ : ∃ m, m = y.f3.length := ⟨_, rfl⟩
    have hnm : n ≤ 9223372036854775807 := by rw [hn]; exact Kd.C_max hA
    have HA := Lib.hid hA
    have HBB := Lib.hid hB
    have HW := Lib.hid hW
    have Hn := Lib.hid hn
    have Hm := Lib.hid hm
    rw [← hn, ← hm]
    have IH := Lib.hid ih
    have HN := Lib.hid hN
    obtain ⟨tot, ht⟩ : ∃ t, t = eqB (x = y) := ⟨_, rfl⟩
    have HT := Lib.hid ht
    rw [← ht]
    clear hA hB hW hn hm ih hN ht
    have HX : Hid (((w.alloc (.cells #[.int .i64 x.f0, .int .i64 x.f1, .string x.f2, .slice A n c] 87)).alloc (.cells #[.int .i64 y.f0, .int .i64 y.f1, .string y.f2, .slice B m d] 87)).heap[w.heap.size]? = some (.cells #[.int .i64 x.f0, .int .i64 x.f1, .string x.f2, .slice A n c] 87 (0, 0))) := Lib.hid (blk_alloc (blk_new w _) _)
    have HY : Hid (((w.alloc (.cells #[.int .i64 x.f0, .int .i64 x.f1, .string x.f2, .slice A n c] 87)).alloc (.cells #[.int .i64 y.f0, .int .i64 y.f1, .string y.f2, .slice B m d] 87)).heap[w.heap.size + 1]? = some (.cells #[.int .i64 y.f0, .int .i64 y.f1, .string y.f2, .slice B m d] 87 (0, 0))) := Lib.hid (by
      have := blk_new (w.alloc (.cells #[.int .i64 x.f0, .int .i64 x.f1, .string x.f2, .slice A n c] 87)) (.cells #[.int .i64 y.f0, .int .i64 y.f1, .string y.f2, .slice B m d] 87)
      rw [World.size_alloc] at this
      exact this)
    have HB : Hid (Below w.heap.size w ((w.alloc (.cells #[.int .i64 x.f0, .int .i64 x.f1, .string x.f2, .slice A n c] 87)).alloc (.cells #[.int .i64 y.f0, .int .i64 y.f1, .string y.f2, .slice B m d] 87))) := ((Below.refl _ _).alloc (Nat.le_refl _) _).alloc (by simp) _
    go_enter Try.func60, Try.ntmps60
    go_upto_region 1 with (fail)
    generalize ((w.alloc (.cells #[.int .i64 x.f0, .int .i64 x.f1, .string x.f2, .slice A n c] 87)).alloc (.cells #[.int .i64 y.f0, .int .i64 y.f1, .string y.f2, .slice B m d] 87)) = wa at *
    have x0 : wa.cell? ⟨w.heap.size, 0, none⟩ = some (.int .i64 x.f0) := blk_at HX.out 0 rfl
    have x1 : wa.cell? ⟨w.heap.size, 1, none⟩ = some (.int .i64 x.f1) := blk_at HX.out 1 rfl
    have x2 : wa.cell? ⟨w.heap.size, 2, none⟩ = some (.string x.f2) := blk_at HX.out 2 rfl
    have x3 : wa.cell? ⟨w.heap.size, 3, none⟩ = some (.slice A n c) := blk_at HX.out 3 rfl
    have y0 : wa.cell? ⟨(w.heap.size + 1), 0, none⟩ = some (.int .i64 y.f0) := blk_at HY.out 0 rfl
    have y1 : wa.cell? ⟨(w.heap.size + 1), 1, none⟩ = some (.int .i64 y.f1) := blk_at HY.out 1 rfl
    have y2 : wa.cell? ⟨(w.heap.size + 1), 2, none⟩ = some (.string y.f2) := blk_at HY.out 2 rfl
    have y3 : wa.cell? ⟨(w.heap.size + 1), 3, none⟩ = some (.slice B m d) := blk_at HY.out 3 rfl
    by_cases hk : x.f0 = y.f0
    rotate_left
    · have HV : Hid (tot = false) := Lib.hid (by rw [HT.out]; exact eqB_false (fun e => hk (by rw [e])))
      have k3 : (x.f0 == y.f0) = false := beq_false_of_ne hk
      have k4 : (x.f0 != y.f0) = true := by simp [hk]
      clear hk
      go_wp2_with (fail)
      go_ret
      rw [HV.out]
      exact ⟨rfl, HB⟩
    rw [← hk] at y0
    have HE0 := Lib.hid hk
    clear hk
    by_cases hk : x.f1 = y.f1
    rotate_left
    · have HV : Hid (tot = false) := Lib.hid (by rw [HT.out]; exact eqB_false (fun e => hk (by rw [e])))
      have k3 : (x.f1 == y.f1) = false := beq_false_of_ne hk
      have k4 : (x.f1 != y.f1) = true := by simp [hk]
      clear hk
      go_wp2_with (fail)
      go_ret
      rw [HV.out]
      exact ⟨rfl, HB⟩
    rw [← hk] at y1
    have HE1 := Lib.hid hk
    clear hk
    by_cases hk : x.f2 = y.f2
    rotate_left
    · have HV : Hid (tot = false) := Lib.hid (by rw [HT.out]; exact eqB_false (fun e => hk (by rw [e])))
      have k3 : ¬ x.f2.toList = y.f2.toList := text_ne hk
      have k4 : (x.f2.toList == y.f2.toList) = false := beq_eq_false_iff_ne.2 k3
      clear hk
      go_wp2_with (fail)
      go_ret
      rw [HV.out]
      exact ⟨rfl, HB⟩
    rw [← hk] at y2
    have HE2 := Lib.hid hk
    clear hk
    by_cases hl : n = m
    rotate_left
    · have HV : Hid (tot = false) := Lib.hid (by rw [HT.out]; exact eqB_false (fun e => hl (by rw [Hn.out, Hm.out, e])))
      have k1 : (n == m) = false := beq_false_of_ne hl
      have k3 : ((n : Int) == (m : Int)) = false := beq_false_of_ne (by omega)
      have k4 : ((n : Int) != (m : Int)) = true := by simp; omega
      go_wp2_with (fail)
      go_ret
      rw [HV.out]
      exact ⟨rfl, HB⟩
    subst hl
    have HV0 : Hid (tot = eqB (x.f3.drop 0 = y.f3.drop 0)) := Lib.hid (by
      rw [HT.out, List.drop_zero, List.drop_zero]
      exact eqB_iff ⟨fun e => by rw [e], fun e => by have e0 := HE0.out; have e1 := HE1.out; have e2 := HE2.out; cases x; cases y; simp only at e0 e1 e2 e; rw [e0, e1, e2, e]⟩)
    have ex0 := HE0.out
    have ex1 := HE1.out
    have ex2 := HE2.out
    rw [← ex0, ← ex1, ← ex2] at HY
    clear ex0 ex1 ex2
    go_wp2_with (fail)
    clear x0 x1 x2 x3 y0 y1 y2 y3
    go_loopw [5] (fun v5 wr => ∃ k : Nat, k ≤ n ∧ v5 = .int .i64 k ∧ Hid (tot = eqB (x.f3.drop k = y.f3.drop k)) ∧ Hid (Below w.heap.size w wr) ∧ Hid (wr.heap[w.heap.size]? = some (.cells #[.int .i64 x.f0, .int .i64 x.f1, .string x.f2, .slice A n c] 87 (0, 0))) ∧ Hid (wr.heap[w.heap.size + 1]? = some (.cells #[.int .i64 x.f0, .int .i64 x.f1, .string x.f2, .slice B n d] 87 (0, 0)))) (fun v5 _ => n - (intOf v5).toNat)
    case atStart => exact ⟨0, Nat.zero_le _, rfl, HV0, HB, HX, HY⟩
    case round =>
      clear HV0 HB HX HY
      obtain ⟨k, hk, rfl, HVk, HBk, HXk, HYk⟩ := hrel
      by_cases hlt : k < n
      rotate_left
      · obtain rfl : n = k := by omega
        have HE : Hid (tot = true) := Lib.hid (by rw [HVk.out, List.drop_eq_nil_of_le (by rw [← Hn.out]; exact Nat.le_refl _), List.drop_eq_nil_of_le (by rw [← Hm.out]; exact Nat.le_refl _)]; exact eqB_true rfl)
        have b3 : wr.cell? ⟨w.heap.size, 3, none⟩ = some (.slice A n c) := blk_at HXk.out 3 rfl
        go_wp2_with (fail)
        go_ret
        rw [HE.out]
        exact ⟨rfl, HBk⟩
      obtain ⟨ad, A3, c3, hA3, e0, e1, e2, e3, hl3, hC3⟩ := at_T87 HA.out (k : Int) (by omega) (by rw [← Hn.out]; omega)
      obtain ⟨bd, B3, d3, hB3, p0, p1, p2, p3, hl4, hC4⟩ := at_T87 HBB.out (k : Int) (by omega) (by rw [← Hm.out]; omega)
      subst hA3
      subst hB3
      have hmem : x.f3.getD k z87 ∈ x.f3 := getD_mem _ _ k (by rw [← Hn.out]; exact hlt)
      have hdr := fun r => drop_step (r := r) z87 (k := k) (by rw [← Hn.out]; omega) (by rw [← Hm.out]; omega) HVk.out
      have hx1 : x.f3.getD k z87 = rd_T87 x.f3 (k : Int) := by unfold rd_T87; rw [Int.toNat_natCast]
      have hx2 : y.f3.getD k z87 = rd_T87 y.f3 (k : Int) := by unfold rd_T87; rw [Int.toNat_natCast]
      rw [hx1] at hdr hmem
      rw [hx2] at hdr
      clear hx1 hx2
      generalize rd_T87 x.f3 (k : Int) = u at *
      generalize rd_T87 y.f3 (k : Int) = v at *
      rw [Int.toNat_natCast] at e0 e1 e2 e3 p0 p1 p2 p3
      have HWk : Hid (Below w0.heap.size w0 wr) := HW.out.trans (HBk.out.mono HW.out.size)
      replace e0 := pw_cell_below HWk.out e0
      replace e1 := pw_cell_below HWk.out e1
      replace e2 := pw_cell_below HWk.out e2
      replace e3 := pw_cell_below HWk.out e3
      replace p0 := pw_cell_below HWk.out p0
      replace p1 := pw_cell_below HWk.out p1
      replace p2 := pw_cell_below HWk.out p2
      replace p3 := pw_cell_below HWk.out p3
      have HYY := Lib.hid (IH.out u v (by have := S87.size_mem hmem; have := HN.out; omega) A3 B3 c3 d3 w0 wr.drew hC3 hC4 HWk.out.drew)
      generalize hr : eqB (u = v) = r at HYY
      have HDR := Lib.hid (hdr r hr)
      have b3 : wr.cell? ⟨w.heap.size, 3, none⟩ = some (.slice (some ad) n c) := blk_at HXk.out 3 rfl
      have b7 : wr.cell? ⟨w.heap.size + 1, 3, none⟩ = some (.slice (some bd) n d) := blk_at HYk.out 3 rfl
      have i0 : (0 : Int) ≤ (k : Int) := by omega
      have i1 : (k : Int) < (n : Int) := by omega
      clear hmem hdr hr hC3 hC4 hl3 hl4
      go_upto_region 6 with (fail)
      refine start_ (n := 12) (S := (fun w' => w'.cell? ⟨w.heap.size, 3, none⟩ = some (.slice (some ad) n c) ∧ w'.cell? ⟨w.heap.size + 1, 3, none⟩ = some (.slice (some bd) n d) ∧ w'.cell? (ad.add (k * 4)) = some (.int .i64 u.f0) ∧ w'.cell? ⟨(ad.add (k * 4)).block, (ad.add (k * 4)).off + 1, none⟩ = some (.int .i64 u.f1) ∧ w'.cell? ⟨(ad.add (k * 4)).block, (ad.add (k * 4)).off + 2, none⟩ = some (.string u.f2) ∧ w'.cell? ⟨(ad.add (k * 4)).block, (ad.add (k * 4)).off + 3, none⟩ = some (.slice A3 u.f3.length c3) ∧ w'.cell? (bd.add (k * 4)) = some (.int .i64 v.f0) ∧ w'.cell? ⟨(bd.add (k * 4)).block, (bd.add (k * 4)).off + 1, none⟩ = some (.int .i64 v.f1) ∧ w'.cell? ⟨(bd.add (k * 4)).block, (bd.add (k * 4)).off + 2, none⟩ = some (.string v.f2) ∧ w'.cell? ⟨(bd.add (k * 4)).block, (bd.add (k * 4)).off + 3, none⟩ = some (.slice B3 v.f3.length d3))) (ds := [10]) #[false, false, false, false, false, false, false, false, false, false, false, false] (by kernel_rfl) rfl rfl ⟨b3, b7, e0, e1, e2, e3, p0, p1, p2, p3⟩ (fun hHeld => ?_)
      refine pure_ (i := 0) (N := some 41) (v := ?_) (a' := ?_) #[true, false, false, false, false, false, false, false, false, false, false, false] rfl rfl (by kernel_rfl) (fun _ _ _ h => h) (Or.inl ⟨by rfl, ?_⟩) ?_ ?_
      rotate_left
      · intro w'
        go_simp
        with_reducible rfl
      rotate_left
      · go_simp
        rfl
      refine take_ (i := 1) (N := some 42) (v := ?_) (a' := ?_) #[true, true, false, false, false, false, false, false, false, false, false, false] rfl rfl (by kernel_rfl) (fun _ _ _ h => h) (Or.inl ⟨by rfl, ?_⟩) hHeld ?_ ?_
      rotate_left
      · rintro w' ⟨s0, s1, s2, s3, s4, s5, s6, s7, s8, s9⟩
        go_simp
        with_reducible rfl
      rotate_left
      · go_simp
        rfl
      refine pure_ (i := 2) (N := some 43) (v := ?_) (a' := ?_) #[true, true, true, false, false, false, false, false, false, false, false, false] rfl rfl (by kernel_rfl) (fun _ _ _ h => h) (Or.inl ⟨by rfl, ?_⟩) ?_ ?_
      rotate_left
      · intro w'
        go_simp
        with_reducible rfl
      rotate_left
      · go_simp
        rfl
      refine pure_ (i := 3) (N := some 44) (v := ?_) (a' := ?_) #[true, true, true, true, false, false, false, false, false, false, false, false] rfl rfl (by kernel_rfl) (fun _ _ _ h => h) (Or.inl ⟨by rfl, ?_⟩) ?_ ?_
      rotate_left
      · intro w'
        go_simp
        with_reducible rfl
      rotate_left
      · go_simp
        rfl
      refine take_ (i := 4) (N := some 45) (v := ?_) (a' := ?_) #[true, true, true, true, true, false, false, false, false, false, false, false] rfl rfl (by kernel_rfl) (fun _ _ _ h => h) (Or.inl ⟨by rfl, ?_⟩) hHeld ?_ ?_
      rotate_left
      · rintro w' ⟨s0, s1, s2, s3, s4, s5, s6, s7, s8, s9⟩
        go_simp
        with_reducible rfl
      rotate_left
      · go_simp
        rfl
      refine pure_ (i := 5) (N := some 46) (v := ?_) (a' := ?_) #[true, true, true, true, true, true, false, false, false, false, false, false] rfl rfl (by kernel_rfl) (fun _ _ _ h => h) (Or.inl ⟨by rfl, ?_⟩) ?_ ?_
      rotate_left
      · intro w'
        go_simp
        with_reducible rfl
      rotate_left
      · go_simp
        rfl
      refine take_ (i := 6) (N := some 47) (v := ?_) (a' := ?_) #[true, true, true, true, true, true, true, false, false, false, false, false] rfl rfl (by kernel_rfl) (fun _ _ _ h => h) (Or.inl ⟨by rfl, ?_⟩) hHeld ?_ ?_
      rotate_left
      · rintro w' ⟨s0, s1, s2, s3, s4, s5, s6, s7, s8, s9⟩
        go_simp
        with_reducible rfl
      rotate_left
      · go_simp
        rfl
      refine pure_ (i := 7) (N := some 48) (v := ?_) (a' := ?_) #[true, true, true, true, true, true, true, true, false, false, false, false] rfl rfl (by kernel_rfl) (fun _ _ _ h => h) (Or.inl ⟨by rfl, ?_⟩) ?_ ?_
      rotate_left
      · intro w'
        go_simp
        with_reducible rfl
      rotate_left
      · go_simp
        rfl
      refine pure_ (i := 8) (N := some 49) (v := ?_) (a' := ?_) #[true, true, true, true, true, true, true, true, true, false, false, false] rfl rfl (by kernel_rfl) (fun _ _ _ h => h) (Or.inl ⟨by rfl, ?_⟩) ?_ ?_
      rotate_left
      · intro w'
        go_simp
        with_reducible rfl
      rotate_left
      · go_simp
        rfl
      refine take_ (i := 9) (N := some 50) (v := ?_) (a' := ?_) #[true, true, true, true, true, true, true, true, true, true, false, false] rfl rfl (by kernel_rfl) (fun _ _ _ h => h) (Or.inl ⟨by rfl, ?_⟩) hHeld ?_ ?_
      rotate_left
      · rintro w' ⟨s0, s1, s2, s3, s4, s5, s6, s7, s8, s9⟩
        go_simp
        with_reducible rfl
      rotate_left
      · go_simp
        rfl
      refine last_ (i := 10) (N := some 51) #[true, true, true, true, true, true, true, true, true, true, true, false] rfl rfl (by kernel_rfl) (by decide) (fun K hK => ?_)
      refine goes_ Try.func60 (by kernel_rfl) rfl #[.agg #[.int .i64 u.f0, .int .i64 u.f1, .string u.f2, .slice A3 u.f3.length c3], .agg #[.int .i64 v.f0, .int .i64 v.f1, .string v.f2, .slice B3 v.f3.length d3]] (by rfl) rfl rfl (by simp only [List.map_toArray, List.map_cons, List.map_nil]; rfl) ?_
      refine HYY.out.mono ?_
      rintro e w2 ⟨rfl, hb2⟩
      refine ⟨_, rfl, ?_⟩
      refine hK.out _ _ ?_
      clear hK K hHeld
      have HB2 : Hid (Below w.heap.size w w2) := Lib.hid (HBk.out.trans (((Below.refl _ wr).drew.trans hb2.out).mono HBk.out.size))
      have HX2 := Lib.hid (blk_below HXk.out ((Below.refl _ wr).drew.trans hb2.out))
      have HX3 := Lib.hid (blk_below HYk.out ((Below.refl _ wr).drew.trans hb2.out))
      clear hb2
      refine norm_ (a' := ?_) ?_ ?_
      rotate_left
      · show Act.put _ (some 51) _ = _
        go_simp
        rfl
      refine pure_ (i := 11) (N := some 52) (v := ?_) (a' := ?_) #[true, true, true, true, true, true, true, true, true, true, true, true] rfl rfl (by kernel_rfl) (fun _ _ _ h => h) (Or.inl ⟨by rfl, ?_⟩) ?_ ?_
      rotate_left
      · intro w'
        go_simp
        with_reducible rfl
      rotate_left
      · go_simp
        rfl
      refine done_ (by kernel_rfl) ?_
      clear e0 e1 e2 e3 p0 p1 p2 p3 b3 b7 i0 i1
      cases r with
      | true =>
        have HV2 : Hid (tot = eqB (x.f3.drop (k + 1) = y.f3.drop (k + 1))) := Lib.hid (by have := HDR.out; rw [Bool.true_and] at this; exact this)
        go_wp2_with (fail)
        go_roundw
        case rel => exact ⟨k + 1, by omega, by go_num, HV2, HB2, HX2, HX3⟩
        case measure => simp [intOf]; omega
      | false =>
        have HV2 : Hid (tot = false) := Lib.hid (by have := HDR.out; rw [Bool.false_and] at this; exact this)
        go_wp2_with (fail)
        go_ret
        rw [HV2.out]
        exact ⟨rfl, HB2⟩
theorem sameV (x y : S87) (A B : Option Addr) (c d : Nat) (w0 w : World) (hA : Kd.C k87 w0 A x.f3.length x.f3) (hB : Kd.C k87 w0 B y.f3.length y.f3) (hW : Below w0.heap.size w0 w) :
    Calls Try.prog 60 #[.agg #[.int .i64 x.f0, .int .i64 x.f1, .string x.f2, .slice A x.f3.length c], .agg #[.int .i64 y.f0, .int .i64 y.f1, .string y.f2, .slice B y.f3.length d]] w fun e w' => SaysB (eqB (x = y)) w e w' := sameV60 _ x y (Nat.lt_succ_self _) A B c d w0 w hA hB hW
set_option maxRecDepth 100000 in
set_option maxHeartbeats 16000000 in
theorem sameC54 (x y : S63) (A B : Option Addr) (c d : Nat) (w0 w : World) (hA : Kd.C k87 w0 A x.f1.length x.f1) (hB : Kd.C k87 w0 B y.f1.length y.f1) (hW : Below w0.heap.size w0 w) :
    Calls Try.prog 54 #[.agg #[.string x.f0, .slice A x.f1.length c], .agg #[.string y.f0, .slice B y.f1.length d]] w fun e w' => SaysB (eqB (x = y)) w e w' := by
  obtain ⟨n, hn⟩ : ∃ n, n = x.f1.length := ⟨_, rfl⟩
  obtain ⟨m, hm⟩ : ∃ m, m = y.f1.length := ⟨_, rfl⟩
  have hnm : n ≤ 9223372036854775807 := by rw [hn]; exact Kd.C_max hA
  have HA := Lib.hid hA
  have HBB := Lib.hid hB
  have HW := Lib.hid hW
  have Hn := Lib.hid hn
  have Hm := Lib.hid hm
  rw [← hn, ← hm]
  obtain ⟨tot, ht⟩ : ∃ t, t = eqB (x = y) := ⟨_, rfl⟩
  have HT := Lib.hid ht
  rw [← ht]
  clear hA hB hW hn hm ht
  have HX : Hid (((w.alloc (.cells #[.string x.f0, .slice A n c] 63)).alloc (.cells #[.string y.f0, .slice B m d] 63)).heap[w.heap.size]? = some (.cells #[.string x.f0, .slice A n c] 63 (0, 0))) := Lib.hid (blk_alloc (blk_new w _) _)
  have HY : Hid (((w.alloc (.cells #[.string x.f0, .slice A n c] 63)).alloc (.cells #[.string y.f0, .slice B m d] 63)).heap[w.heap.size + 1]? = some (.cells #[.string y.f0, .slice B m d] 63 (0, 0))) := Lib.hid (by
    have := blk_new (w.alloc (.cells #[.string x.f0, .slice A n c] 63)) (.cells #[.string y.f0, .slice B m d] 63)
    rw [World.size_alloc] at this
    exact this)
  have HB : Hid (Below w.heap.size w ((w.alloc (.cells #[.string x.f0, .slice A n c] 63)).alloc (.cells #[.string y.f0, .slice B m d] 63))) := ((Below.refl _ _).alloc (Nat.le_refl _) _).alloc (by simp) _
  go_enter Try.func54, Try.ntmps54
  go_upto_region 1 with (fail)
  generalize ((w.alloc (.cells #[.string x.f0, .slice A n c] 63)).alloc (.cells #[.string y.f0, .slice B m d] 63)) = wa at *
  have x0 : wa.cell? ⟨w.heap.size, 0, none⟩ = some (.string x.f0) := blk_at HX.out 0 rfl
  have x1 : wa.cell? ⟨w.heap.size, 1, none⟩ = some (.slice A n c) := blk_at HX.out 1 rfl
  have y0 : wa.cell? ⟨(w.heap.size + 1), 0, none⟩ = some (.string y.f0) := blk_at HY.out 0 rfl
  have y1 : wa.cell? ⟨(w.heap.size + 1), 1, none⟩ = some (.slice B m d) := blk_at HY.out 1 rfl
  by_cases hk : x.f0 = y.f0
  rotate_left
  · have HV : Hid (tot = false) := Lib.hid (by rw [HT.out]; exact eqB_false (fun e => hk (by rw [e])))
    have k3 : ¬ x.f0.toList = y.f0.toList := text_ne hk
    have k4 : (x.f0.toList == y.f0.toList) = false := beq_eq_false_iff_ne.2 k3
    clear hk
    go_wp2_with (fail)
    go_ret
    rw [HV.out]
    exact ⟨rfl, HB⟩
  rw [← hk] at y0
  have HE0 := Lib.hid hk
  clear hk
  by_cases hl : n = m
  rotate_left
  · have HV : Hid (tot = false) := Lib.hid (by rw [HT.out]; exact eqB_false (fun e => hl (by rw [Hn.out, Hm.out, e])))
    have k1 : (n == m) = false := beq_false_of_ne hl
    have k3 : ((n : Int) == (m : Int)) = false := beq_false_of_ne (by omega)
    have k4 : ((n : Int) != (m : Int)) = true := by simp; omega
    go_wp2_with (fail)
    go_ret
    rw [HV.out]
    exact ⟨rfl, HB⟩
  subst hl
  have HV0 : Hid (tot = eqB (x.f1.drop 0 = y.f1.drop 0)) := Lib.hid (by
    rw [HT.out, List.drop_zero, List.drop_zero]
    exact eqB_iff ⟨fun e => by rw [e], fun e => by have e0 := HE0.out; cases x; cases y; simp only at e0 e; rw [e0, e]⟩)
  have ex0 := HE0.out
  rw [← ex0] at HY
  clear ex0
  go_wp2_with (fail)
  clear x0 x1 y0 y1
  go_loopw [5] (fun v5 wr => ∃ k : Nat, k ≤ n ∧ v5 = .int .i64 k ∧ Hid (tot = eqB (x.f1.drop k = y.f1.drop k)) ∧ Hid (Below w.heap.size w wr) ∧ Hid (wr.heap[w.heap.size]? = some (.cells #[.string x.f0, .slice A n c] 63 (0, 0))) ∧ Hid (wr.heap[w.heap.size + 1]? = some (.cells #[.string x.f0, .slice B n d] 63 (0, 0)))) (fun v5 _ => n - (intOf v5).toNat)
  case atStart => exact ⟨0, Nat.zero_le _, rfl, HV0, HB, HX, HY⟩
  case round =>
    clear HV0 HB HX HY
    obtain ⟨k, hk, rfl, HVk, HBk, HXk, HYk⟩ := hrel
    by_cases hlt : k < n
    rotate_left
    · obtain rfl : n = k := by omega
      have HE : Hid (tot = true) := Lib.hid (by rw [HVk.out, List.drop_eq_nil_of_le (by rw [← Hn.out]; exact Nat.le_refl _), List.drop_eq_nil_of_le (by rw [← Hm.out]; exact Nat.le_refl _)]; exact eqB_true rfl)
      have b3 : wr.cell? ⟨w.heap.size, 1, none⟩ = some (.slice A n c) := blk_at HXk.out 1 rfl
      go_wp2_with (fail)
      go_ret
      rw [HE.out]
      exact ⟨rfl, HBk⟩
    obtain ⟨ad, A3, c3, hA3, e0, e1, e2, e3, hl3, hC3⟩ := at_T87 HA.out (k : Int) (by omega) (by rw [← Hn.out]; omega)
    obtain ⟨bd, B3, d3, hB3, p0, p1, p2, p3, hl4, hC4⟩ := at_T87 HBB.out (k : Int) (by omega) (by rw [← Hm.out]; omega)
    subst hA3
    subst hB3
    have hmem : x.f1.getD k z87 ∈ x.f1 := getD_mem _ _ k (by rw [← Hn.out]; exact hlt)
    have hdr := fun r => drop_step (r := r) z87 (k := k) (by rw [← Hn.out]; omega) (by rw [← Hm.out]; omega) HVk.out
    have hx1 : x.f1.getD k z87 = rd_T87 x.f1 (k : Int) := by unfold rd_T87; rw [Int.toNat_natCast]
    have hx2 : y.f1.getD k z87 = rd_T87 y.f1 (k : Int) := by unfold rd_T87; rw [Int.toNat_natCast]
    rw [hx1] at hdr hmem
    rw [hx2] at hdr
    clear hx1 hx2
    generalize rd_T87 x.f1 (k : Int) = u at *
    generalize rd_T87 y.f1 (k : Int) = v at *
    rw [Int.toNat_natCast] at e0 e1 e2 e3 p0 p1 p2 p3
    have HWk : Hid (Below w0.heap.size w0 wr) := HW.out.trans (HBk.out.mono HW.out.size)
    replace e0 := pw_cell_below HWk.out e0
    replace e1 := pw_cell_below HWk.out e1
    replace e2 := pw_cell_below HWk.out e2
    replace e3 := pw_cell_below HWk.out e3
    replace p0 := pw_cell_below HWk.out p0
    replace p1 := pw_cell_below HWk.out p1
    replace p2 := pw_cell_below HWk.out p2
    replace p3 := pw_cell_below HWk.out p3
    have HYY := Lib.hid (sameV u v A3 B3 c3 d3 w0 wr.drew hC3 hC4 HWk.out.drew)
    generalize hr : eqB (u = v) = r at HYY
    have HDR := Lib.hid (hdr r hr)
    have b3 : wr.cell? ⟨w.heap.size, 1, none⟩ = some (.slice (some ad) n c) := blk_at HXk.out 1 rfl
    have b7 : wr.cell? ⟨w.heap.size + 1, 1, none⟩ = some (.slice (some bd) n d) := blk_at HYk.out 1 rfl
    have i0 : (0 : Int) ≤ (k : Int) := by omega
    have i1 : (k : Int) < (n : Int) := by omega
    clear hmem hdr hr hC3 hC4 hl3 hl4
    go_upto_region 6 with (fail)
    refine start_ (n := 12) (S := (fun w' => w'.cell? ⟨w.heap.size, 1, none⟩ = some (.slice (some ad) n c) ∧ w'.cell? ⟨w.heap.size + 1, 1, none⟩ = some (.slice (some bd) n d) ∧ w'.cell? (ad.add (k * 4)) = some (.int .i64 u.f0) ∧ w'.cell? ⟨(ad.add (k * 4)).block, (ad.add (k * 4)).off + 1, none⟩ = some (.int .i64 u.f1) ∧ w'.cell? ⟨(ad.add (k * 4)).block, (ad.add (k * 4)).off + 2, none⟩ = some (.string u.f2) ∧ w'.cell? ⟨(ad.add (k * 4)).block, (ad.add (k * 4)).off + 3, none⟩ = some (.slice A3 u.f3.length c3) ∧ w'.cell? (bd.add (k * 4)) = some (.int .i64 v.f0) ∧ w'.cell? ⟨(bd.add (k * 4)).block, (bd.add (k * 4)).off + 1, none⟩ = some (.int .i64 v.f1) ∧ w'.cell? ⟨(bd.add (k * 4)).block, (bd.add (k * 4)).off + 2, none⟩ = some (.string v.f2) ∧ w'.cell? ⟨(bd.add (k * 4)).block, (bd.add (k * 4)).off + 3, none⟩ = some (.slice B3 v.f3.length d3))) (ds := [10]) #[false, false, false, false, false, false, false, false, false, false, false, false] (by kernel_rfl) rfl rfl ⟨b3, b7, e0, e1, e2, e3, p0, p1, p2, p3⟩ (fun hHeld => ?_)
    refine pure_ (i := 0) (N := some 27) (v := ?_) (a' := ?_) #[true, false, false, false, false, false, false, false, false, false, false, false] rfl rfl (by kernel_rfl) (fun _ _ _ h => h) (Or.inl ⟨by rfl, ?_⟩) ?_ ?_
    rotate_left
    · intro w'
      go_simp
      with_reducible rfl
    rotate_left
    · go_simp
      rfl
    refine take_ (i := 1) (N := some 28) (v := ?_) (a' := ?_) #[true, true, false, false, false, false, false, false, false, false, false, false] rfl rfl (by kernel_rfl) (fun _ _ _ h => h) (Or.inl ⟨by rfl, ?_⟩) hHeld ?_ ?_
    rotate_left
    · rintro w' ⟨s0, s1, s2, s3, s4, s5, s6, s7, s8, s9⟩
      go_simp
      with_reducible rfl
    rotate_left
    · go_simp
      rfl
    refine pure_ (i := 2) (N := some 29) (v := ?_) (a' := ?_) #[true, true, true, false, false, false, false, false, false, false, false, false] rfl rfl (by kernel_rfl) (fun _ _ _ h => h) (Or.inl ⟨by rfl, ?_⟩) ?_ ?_
    rotate_left
    · intro w'
      go_simp
      with_reducible rfl
    rotate_left
    · go_simp
      rfl
    refine pure_ (i := 3) (N := some 30) (v := ?_) (a' := ?_) #[true, true, true, true, false, false, false, false, false, false, false, false] rfl rfl (by kernel_rfl) (fun _ _ _ h => h) (Or.inl ⟨by rfl, ?_⟩) ?_ ?_
    rotate_left
    · intro w'
      go_simp
      with_reducible rfl
    rotate_left
    · go_simp
      rfl
    refine take_ (i := 4) (N := some 31) (v := ?_) (a' := ?_) #[true, true, true, true, true, false, false, false, false, false, false, false] rfl rfl (by kernel_rfl) (fun _ _ _ h => h) (Or.inl ⟨by rfl, ?_⟩) hHeld ?_ ?_
    rotate_left
    · rintro w' ⟨s0, s1, s2, s3, s4, s5, s6, s7, s8, s9⟩
      go_simp
      with_reducible rfl
    rotate_left
    · go_simp
      rfl
    refine pure_ (i := 5) (N := some 32) (v := ?_) (a' := ?_) #[true, true, true, true, true, true, false, false, false, false, false, false] rfl rfl (by kernel_rfl) (fun _ _ _ h => h) (Or.inl ⟨by rfl, ?_⟩) ?_ ?_
    rotate_left
    · intro w'
      go_simp
      with_reducible rfl
    rotate_left
    · go_simp
      rfl
    refine take_ (i := 6) (N := some 33) (v := ?_) (a' := ?_) #[true, true, true, true, true, true, true, false, false, false, false, false] rfl rfl (by kernel_rfl) (fun _ _ _ h => h) (Or.inl ⟨by rfl, ?_⟩) hHeld ?_ ?_
    rotate_left
    · rintro w' ⟨s0, s1, s2, s3, s4, s5, s6, s7, s8, s9⟩
      go_simp
      with_reducible rfl
    rotate_left
    · go_simp
      rfl
    refine pure_ (i := 7) (N := some 34) (v := ?_) (a' := ?_) #[true, true, true, true, true, true, true, true, false, false, false, false] rfl rfl (by kernel_rfl) (fun _ _ _ h => h) (Or.inl ⟨by rfl, ?_⟩) ?_ ?_
    rotate_left
    · intro w'
      go_simp
      with_reducible rfl
    rotate_left
    · go_simp
      rfl
    refine pure_ (i := 8) (N := some 35) (v := ?_) (a' := ?_) #[true, true, true, true, true, true, true, true, true, false, false, false] rfl rfl (by kernel_rfl) (fun _ _ _ h => h) (Or.inl ⟨by rfl, ?_⟩) ?_ ?_
    rotate_left
    · intro w'
      go_simp
      with_reducible rfl
    rotate_left
    · go_simp
      rfl
    refine take_ (i := 9) (N := some 36) (v := ?_) (a' := ?_) #[true, true, true, true, true, true, true, true, true, true, false, false] rfl rfl (by kernel_rfl) (fun _ _ _ h => h) (Or.inl ⟨by rfl, ?_⟩) hHeld ?_ ?_
    rotate_left
    · rintro w' ⟨s0, s1, s2, s3, s4, s5, s6, s7, s8, s9⟩
      go_simp
      with_reducible rfl
    rotate_left
    · go_simp
      rfl
    refine last_ (i := 10) (N := some 37) #[true, true, true, true, true, true, true, true, true, true, true, false] rfl rfl (by kernel_rfl) (by decide) (fun K hK => ?_)
    refine goes_ Try.func60 (by kernel_rfl) rfl #[.agg #[.int .i64 u.f0, .int .i64 u.f1, .string u.f2, .slice A3 u.f3.length c3], .agg #[.int .i64 v.f0, .int .i64 v.f1, .string v.f2, .slice B3 v.f3.length d3]] (by rfl) rfl rfl (by simp only [List.map_toArray, List.map_cons, List.map_nil]; rfl) ?_
    refine HYY.out.mono ?_
    rintro e w2 ⟨rfl, hb2⟩
    refine ⟨_, rfl, ?_⟩
    refine hK.out _ _ ?_
    clear hK K hHeld
    have HB2 : Hid (Below w.heap.size w w2) := Lib.hid (HBk.out.trans (((Below.refl _ wr).drew.trans hb2.out).mono HBk.out.size))
    have HX2 := Lib.hid (blk_below HXk.out ((Below.refl _ wr).drew.trans hb2.out))
    have HX3 := Lib.hid (blk_below HYk.out ((Below.refl _ wr).drew.trans hb2.out))
    clear hb2
    refine norm_ (a' := ?_) ?_ ?_
    rotate_left
    · show Act.put _ (some 37) _ = _
      go_simp
      rfl
    refine pure_ (i := 11) (N := some 38) (v := ?_) (a' := ?_) #[true, true, true, true, true, true, true, true, true, true, true, true] rfl rfl (by kernel_rfl) (fun _ _ _ h => h) (Or.inl ⟨by rfl, ?_⟩) ?_ ?_
    rotate_left
    · intro w'
      go_simp
      with_reducible rfl
    rotate_left
    · go_simp
      rfl
    refine done_ (by kernel_rfl) ?_
    clear e0 e1 e2 e3 p0 p1 p2 p3 b3 b7 i0 i1
    cases r with
    | true =>
      have HV2 : Hid (tot = eqB (x.f1.drop (k + 1) = y.f1.drop (k + 1))) := Lib.hid (by have := HDR.out; rw [Bool.true_and] at this; exact this)
      go_wp2_with (fail)
      go_roundw
      case rel => exact ⟨k + 1, by omega, by go_num, HV2, HB2, HX2, HX3⟩
      case measure => simp [intOf]; omega
    | false =>
      have HV2 : Hid (tot = false) := Lib.hid (by have := HDR.out; rw [Bool.false_and] at this; exact this)
      go_wp2_with (fail)
      go_ret
      rw [HV2.out]
      exact ⟨rfl, HB2⟩
set_option maxRecDepth 100000 in
set_option maxHeartbeats 16000000 in
theorem sameL42 (x y : List S63) (A B : Option Addr) (c d : Nat) (w0 w : World) (hA : Kd.C k63 w0 A x.length x) (hB : Kd.C k63 w0 B y.length y) (hW : Below w0.heap.size w0 w) :
    Calls Try.prog 42 #[.slice A x.length c, .slice B y.length d] w fun e w' => SaysB (eqB (x = y)) w e w' := by
  obtain ⟨n, hn⟩ : ∃ n, n = x.length := ⟨_, rfl⟩
  obtain ⟨m, hm⟩ : ∃ m, m = y.length := ⟨_, rfl⟩
  have hnm : n ≤ 9223372036854775807 := by rw [hn]; exact Kd.C_max hA
  have HA := Lib.hid hA
  have HBB := Lib.hid hB
  have HW := Lib.hid hW
  have Hn := Lib.hid hn
  have Hm := Lib.hid hm
  rw [← hn, ← hm]
  obtain ⟨tot, ht⟩ : ∃ t, t = eqB (x = y) := ⟨_, rfl⟩
  have HT := Lib.hid ht
  rw [← ht]
  clear hA hB hW hn hm ht
  have HB : Hid (Below w.heap.size w w) := Below.refl _ _
  go_enter Try.func42, Try.ntmps42
  by_cases hl : n = m
  rotate_left
  · have HV : Hid (tot = false) := Lib.hid (by rw [HT.out]; exact eqB_false (fun e => hl (by rw [Hn.out, Hm.out, e])))
    have k1 : (n == m) = false := beq_false_of_ne hl
    have k3 : ((n : Int) == (m : Int)) = false := beq_false_of_ne (by omega)
    have k4 : ((n : Int) != (m : Int)) = true := by simp; omega
    go_wp2_with (fail)
    go_ret
    rw [HV.out]
    exact ⟨rfl, HB⟩
  subst hl
  have HV0 : Hid (tot = eqB (x.drop 0 = y.drop 0)) := Lib.hid (by
    rw [HT.out, List.drop_zero, List.drop_zero]
    skip)
  go_wp2_with (fail)
  go_loopw [5] (fun v5 wr => ∃ k : Nat, k ≤ n ∧ v5 = .int .i64 k ∧ Hid (tot = eqB (x.drop k = y.drop k)) ∧ Hid (Below w.heap.size w wr)) (fun v5 _ => n - (intOf v5).toNat)
  case atStart => exact ⟨0, Nat.zero_le _, rfl, HV0, HB⟩
  case round =>
    clear HV0 HB
    obtain ⟨k, hk, rfl, HVk, HBk⟩ := hrel
    by_cases hlt : k < n
    rotate_left
    · obtain rfl : n = k := by omega
      have HE : Hid (tot = true) := Lib.hid (by rw [HVk.out, List.drop_eq_nil_of_le (by rw [← Hn.out]; exact Nat.le_refl _), List.drop_eq_nil_of_le (by rw [← Hm.out]; exact Nat.le_refl _)]; exact eqB_true rfl)
      go_wp2_with (fail)
      go_ret
      rw [HE.out]
      exact ⟨rfl, HBk⟩
    obtain ⟨ad, A3, c3, hA3, e0, e1, hl3, hC3⟩ := at_T63 HA.out (k : Int) (by omega) (by rw [← Hn.out]; omega)
    obtain ⟨bd, B3, d3, hB3, p0, p1, hl4, hC4⟩ := at_T63 HBB.out (k : Int) (by omega) (by rw [← Hm.out]; omega)
    subst hA3
    subst hB3
    have hmem : x.getD k z63 ∈ x := getD_mem _ _ k (by rw [← Hn.out]; exact hlt)
    have hdr := fun r => drop_step (r := r) z63 (k := k) (by rw [← Hn.out]; omega) (by rw [← Hm.out]; omega) HVk.out
    have hx1 : x.getD k z63 = rd_T63 x (k : Int) := by unfold rd_T63; rw [Int.toNat_natCast]
    have hx2 : y.getD k z63 = rd_T63 y (k : Int) := by unfold rd_T63; rw [Int.toNat_natCast]
    rw [hx1] at hdr hmem
    rw [hx2] at hdr
    clear hx1 hx2
    generalize rd_T63 x (k : Int) = u at *
    generalize rd_T63 y (k : Int) = v at *
    rw [Int.toNat_natCast] at e0 e1 p0 p1
    have HWk : Hid (Below w0.heap.size w0 wr) := HW.out.trans (HBk.out.mono HW.out.size)
    replace e0 := pw_cell_below HWk.out e0
    replace e1 := pw_cell_below HWk.out e1
    replace p0 := pw_cell_below HWk.out p0
    replace p1 := pw_cell_below HWk.out p1
    have HYY := Lib.hid (sameC54 u v A3 B3 c3 d3 w0 wr.drew hC3 hC4 HWk.out.drew)
    generalize hr : eqB (u = v) = r at HYY
    have HDR := Lib.hid (hdr r hr)
    have i0 : (0 : Int) ≤ (k : Int) := by omega
    have i1 : (k : Int) < (n : Int) := by omega
    clear hmem hdr hr hC3 hC4 hl3 hl4
    go_upto_region 6 with (fail)
    refine start_ (n := 10) (S := (fun w' => w'.cell? (ad.add (k * 2)) = some (.string u.f0) ∧ w'.cell? ⟨(ad.add (k * 2)).block, (ad.add (k * 2)).off + 1, none⟩ = some (.slice A3 u.f1.length c3) ∧ w'.cell? (bd.add (k * 2)) = some (.string v.f0) ∧ w'.cell? ⟨(bd.add (k * 2)).block, (bd.add (k * 2)).off + 1, none⟩ = some (.slice B3 v.f1.length d3))) (ds := [8]) #[false, false, false, false, false, false, false, false, false, false] (by kernel_rfl) rfl rfl ⟨e0, e1, p0, p1⟩ (fun hHeld => ?_)
    refine pure_ (i := 0) (N := some 17) (v := ?_) (a' := ?_) #[true, false, false, false, false, false, false, false, false, false] rfl rfl (by kernel_rfl) (fun _ _ _ h => h) (Or.inl ⟨by rfl, ?_⟩) ?_ ?_
    rotate_left
    · intro w'
      go_simp
      with_reducible rfl
    rotate_left
    · go_simp
      rfl
    refine pure_ (i := 1) (N := some 18) (v := ?_) (a' := ?_) #[true, true, false, false, false, false, false, false, false, false] rfl rfl (by kernel_rfl) (fun _ _ _ h => h) (Or.inl ⟨by rfl, ?_⟩) ?_ ?_
    rotate_left
    · intro w'
      go_simp
      with_reducible rfl
    rotate_left
    · go_simp
      rfl
    refine pure_ (i := 2) (N := some 19) (v := ?_) (a' := ?_) #[true, true, true, false, false, false, false, false, false, false] rfl rfl (by kernel_rfl) (fun _ _ _ h => h) (Or.inl ⟨by rfl, ?_⟩) ?_ ?_
    rotate_left
    · intro w'
      go_simp
      with_reducible rfl
    rotate_left
    · go_simp
      rfl
    refine take_ (i := 3) (N := some 20) (v := ?_) (a' := ?_) #[true, true, true, true, false, false, false, false, false, false] rfl rfl (by kernel_rfl) (fun _ _ _ h => h) (Or.inl ⟨by rfl, ?_⟩) hHeld ?_ ?_
    rotate_left
    · rintro w' ⟨s0, s1, s2, s3⟩
      go_simp
      with_reducible rfl
    rotate_left
    · go_simp
      rfl
    refine pure_ (i := 4) (N := some 21) (v := ?_) (a' := ?_) #[true, true, true, true, true, false, false, false, false, false] rfl rfl (by kernel_rfl) (fun _ _ _ h => h) (Or.inl ⟨by rfl, ?_⟩) ?_ ?_
    rotate_left
    · intro w'
      go_simp
      with_reducible rfl
    rotate_left
    · go_simp
      rfl
    refine pure_ (i := 5) (N := some 22) (v := ?_) (a' := ?_) #[true, true, true, true, true, true, false, false, false, false] rfl rfl (by kernel_rfl) (fun _ _ _ h => h) (Or.inl ⟨by rfl, ?_⟩) ?_ ?_
    rotate_left
    · intro w'
      go_simp
      with_reducible rfl
    rotate_left
    · go_simp
      rfl
    refine pure_ (i := 6) (N := some 23) (v := ?_) (a' := ?_) #[true, true, true, true, true, true, true, false, false, false] rfl rfl (by kernel_rfl) (fun _ _ _ h => h) (Or.inl ⟨by rfl, ?_⟩) ?_ ?_
    rotate_left
    · intro w'
      go_simp
      with_reducible rfl
    rotate_left
    · go_simp
      rfl
    refine take_ (i := 7) (N := some 24) (v := ?_) (a' := ?_) #[true, true, true, true, true, true, true, true, false, false] rfl rfl (by kernel_rfl) (fun _ _ _ h => h) (Or.inl ⟨by rfl, ?_⟩) hHeld ?_ ?_
    rotate_left
    · rintro w' ⟨s0, s1, s2, s3⟩
      go_simp
      with_reducible rfl
    rotate_left
    · go_simp
      rfl
    refine last_ (i := 8) (N := some 25) #[true, true, true, true, true, true, true, true, true, false] rfl rfl (by kernel_rfl) (by decide) (fun K hK => ?_)
    refine goes_ Try.func54 (by kernel_rfl) rfl #[.agg #[.string u.f0, .slice A3 u.f1.length c3], .agg #[.string v.f0, .slice B3 v.f1.length d3]] (by rfl) rfl rfl (by simp only [List.map_toArray, List.map_cons, List.map_nil]; rfl) ?_
    refine HYY.out.mono ?_
    rintro e w2 ⟨rfl, hb2⟩
    refine ⟨_, rfl, ?_⟩
    refine hK.out _ _ ?_
    clear hK K hHeld
    have HB2 : Hid (Below w.heap.size w w2) := Lib.hid (HBk.out.trans (((Below.refl _ wr).drew.trans hb2.out).mono HBk.out.size))
    clear hb2
    refine norm_ (a' := ?_) ?_ ?_
    rotate_left
    · show Act.put _ (some 25) _ = _
      go_simp
      rfl
    refine pure_ (i := 9) (N := some 26) (v := ?_) (a' := ?_) #[true, true, true, true, true, true, true, true, true, true] rfl rfl (by kernel_rfl) (fun _ _ _ h => h) (Or.inl ⟨by rfl, ?_⟩) ?_ ?_
    rotate_left
    · intro w'
      go_simp
      with_reducible rfl
    rotate_left
    · go_simp
      rfl
    refine done_ (by kernel_rfl) ?_
    clear e0 e1 p0 p1 i0 i1
    cases r with
    | true =>
      have HV2 : Hid (tot = eqB (x.drop (k + 1) = y.drop (k + 1))) := Lib.hid (by have := HDR.out; rw [Bool.true_and] at this; exact this)
      go_wp2_with (fail)
      go_roundw
      case rel => exact ⟨k + 1, by omega, by go_num, HV2, HB2⟩
      case measure => simp [intOf]; omega
    | false =>
      have HV2 : Hid (tot = false) := Lib.hid (by have := HDR.out; rw [Bool.false_and] at this; exact this)
      go_wp2_with (fail)
      go_ret
      rw [HV2.out]
      exact ⟨rfl, HB2⟩
end Go.Proofs.Ytpplnhefpcofoaa.PDeltaJoin
