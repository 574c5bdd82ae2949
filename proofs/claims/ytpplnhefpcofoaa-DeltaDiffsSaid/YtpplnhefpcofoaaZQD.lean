/- The reference's Check and CheckState. -/
import Derived.Test.YtpplnhefpcofoaaZQC
namespace Go.Proofs.Ytpplnhefpcofoaa.PDeltaJoin
open Go.RowKit Go.Proofs.YtpplnhefpcofoaaW.PrintWords Go.Proofs.YtpplnhefpcofoaaW.PrintLast
set_option linter.unusedVariables false
set_option linter.unusedSimpArgs false

set_option maxRecDepth 100000 in
set_option maxHeartbeats 16000000 in
theorem rcheck53 (x : S87) (A : Option Addr) (c : Nat) (w0 w : World) (hC : Kd.C k87 w0 A x.f3.length x.f3) (hB : Below w0.heap.size w0 w) :
    Calls Try.prog 53 #[.agg #[.int .i64 x.f0, .int .i64 x.f1, .string x.f2, .slice A x.f3.length c]] w fun e w' => e = .returned (.int .i64 (chkV x 0 0).1) ∧ Hid (Below w.heap.size w w') := by
  have HY : Hid (∀ W, Below w.heap.size w W → Calls Try.prog 59 #[.agg #[.int .i64 x.f0, .int .i64 x.f1, .string x.f2, .slice A x.f3.length c], .int .i64 0, .slice none 0 0] W fun e w' => FlatAns w.heap.size x 0 [] (Value.slice none 0 0).ownBlock W e w') := Lib.hid (fun W h =>
    flat59 _ x (Nat.le_refl _) A c w0 W w.heap.size 0 (.slice none 0 0) [] hC (hB.trans (h.mono hB.size)) hB.size h.size (Kd.R_nil _ _ _ _ _) (by simp) (by omega))
  obtain ⟨n, hn⟩ : ∃ n, n = x.f3.length := ⟨_, rfl⟩
  rw [← hn] at HY ⊢
  have HX := Lib.hid (blk_new w (.cells #[.int .i64 x.f0, .int .i64 x.f1, .string x.f2, .slice A n c] 87))
  have HB1 : Hid (Below w.heap.size w (w.alloc (.cells #[.int .i64 x.f0, .int .i64 x.f1, .string x.f2, .slice A n c] 87))) := Lib.hid ((Below.refl _ _).alloc (Nat.le_refl _) _)
  clear hC hB hn
  go_enter Try.func53, Try.ntmps53
  go_upto_region 1 with (fail)
  generalize w.alloc (.cells #[.int .i64 x.f0, .int .i64 x.f1, .string x.f2, .slice A n c] 87) = W1 at *
  have x0 : W1.cell? ⟨w.heap.size, 0, none⟩ = some (.int .i64 x.f0) := blk_at HX.out 0 rfl
  have x1 : W1.cell? ⟨w.heap.size, 1, none⟩ = some (.int .i64 x.f1) := blk_at HX.out 1 rfl
  have x2 : W1.cell? ⟨w.heap.size, 2, none⟩ = some (.string x.f2) := blk_at HX.out 2 rfl
  have x3 : W1.cell? ⟨w.heap.size, 3, none⟩ = some (.slice A n c) := blk_at HX.out 3 rfl
  go_wp2_with (go_at_call 59; refine (HY.out W1 HB1.out).mono ?_; rintro e w2 ⟨v', l', rfl, hr2, hb2, ha2, hl2⟩
               have HB2 : Hid (Below w.heap.size w w2) := Lib.hid (HB1.out.trans (below_grownR HB1.out.size hb2.out (fun k e => by simp [Value.ownBlock] at e)))
               clear hr2 hb2 ha2 hl2)
  go_ret
  exact ⟨rfl, HB2⟩
theorem kle_less (a b : ByteArray) : kle a b = !Op.bytesLess b.toList a.toList := by
  cases h : Op.bytesLess b.toList a.toList with
  | true => exact kle_lt.2 (by rw [bytesLess_lt] at h; exact of_decide_eq_true h)
  | false =>
    cases hk : kle a b with
    | true => rfl
    | false => rw [bytesLess_lt] at h; exact absurd (kle_lt.1 hk) (of_decide_eq_false h)
set_option maxRecDepth 100000 in
set_option maxHeartbeats 16000000 in
theorem rcheckState38 (num : Int) (l : List S63) (A : Option Addr) (cc : Nat) (w : World) (hC : Kd.C k63 w A l.length l) :
    Calls Try.prog 38 #[.agg #[.int .i64 num, .slice A l.length cc]] w fun e w' => e = .returned (.int .i64 (chkS num l)) ∧ Hid (Below w.heap.size w w') := by
  obtain ⟨n, hn⟩ : ∃ n, n = l.length := ⟨_, rfl⟩
  have HC := Lib.hid hC
  have Hn := Lib.hid hn
  have hnm : n ≤ 9223372036854775807 := by rw [hn]; exact Kd.C_max hC
  rw [← hn]
  clear hC hn
  have HX := Lib.hid (blk_new w (.cells #[.int .i64 num, .slice A n cc] 24))
  have HB0 : Hid (Below w.heap.size w (w.alloc (.cells #[.int .i64 num, .slice A n cc] 24))) := (Below.refl _ _).alloc (Nat.le_refl _) _
  have b0 : (w.alloc (.cells #[.int .i64 num, .slice A n cc] 24)).cell? ⟨w.heap.size, 0, none⟩ = some (.int .i64 num) := blk_at HX.out 0 rfl
  have b1 : (w.alloc (.cells #[.int .i64 num, .slice A n cc] 24)).cell? ⟨w.heap.size, 1, none⟩ = some (.slice A n cc) := blk_at HX.out 1 rfl
  by_cases h1 : num < 0
  · have k1 : decide (num < 0) = true := decide_eq_true h1
    have HR : Hid (chkS num l = 26) := Lib.hid (chkS_num (.inl h1))
    clear h1
    go_enter Try.func38, Try.ntmps38
    go_wp2_with (fail)
    go_ret
    rw [HR.out]
    exact ⟨rfl, HB0⟩
  have k1 : decide (num < 0) = false := decide_eq_false h1
  by_cases h2 : 1073741824 < num
  · have k2 : decide (1073741824 < num) = true := decide_eq_true h2
    have HR : Hid (chkS num l = 26) := Lib.hid (chkS_num (.inr h2))
    clear h1 h2
    go_enter Try.func38, Try.ntmps38
    go_wp2_with (fail)
    go_ret
    rw [HR.out]
    exact ⟨rfl, HB0⟩
  have k2 : decide (1073741824 < num) = false := decide_eq_false h2
  have HV1 : Hid (chkS num l = _) := Lib.hid (if_neg (by omega))
  clear h1 h2
  by_cases h3 : 64 < n
  · have k3 : decide (64 < (n : Int)) = true := decide_eq_true (by omega)
    have k3' : decide (64 < n) = true := decide_eq_true h3
    have HR : Hid (chkS num l = 27) := Lib.hid (HV1.out.trans (if_pos (by rw [← Hn.out]; exact h3)))
    clear h3
    go_enter Try.func38, Try.ntmps38
    go_wp2_with (fail)
    go_ret
    rw [HR.out]
    exact ⟨rfl, HB0⟩
  have k3 : decide (64 < (n : Int)) = false := decide_eq_false (by omega)
  have k3' : decide (64 < n) = false := decide_eq_false h3
  have HV2 : Hid (chkS num l = chkCells none l) := Lib.hid (HV1.out.trans (if_neg (by rw [← Hn.out]; exact h3)))
  clear HV1 h3
  go_enter Try.func38, Try.ntmps38
  go_wp2_with (fail)
  go_loopw [3, 4, 5, 6] (fun v3 _ _ _ wr => ∃ k : Nat, k ≤ n ∧ v3 = .int .i64 k ∧ Hid (chkS num l = chkCells (prevK l k) (l.drop k)) ∧ Hid (Below w.heap.size w wr) ∧ Hid (wr.heap[w.heap.size]? = some (.cells #[.int .i64 num, .slice A n cc] 24 (0, 0)))) (fun v3 _ _ _ _ => n - (intOf v3).toNat)
  case atStart => exact ⟨0, Nat.zero_le _, rfl, HV2, HB0, HX⟩
  case round =>
    clear HV2 HB0 HX b0 b1 k1 k2 k3 k3'
    obtain ⟨k, hk, rfl, HV, HB, HX⟩ := hrel
    by_cases hlt : k < n
    rotate_left
    · obtain rfl : n = k := by omega
      have HR : Hid (chkS num l = 0) := Lib.hid (by rw [HV.out, List.drop_eq_nil_of_le (by rw [← Hn.out]; exact Nat.le_refl _), chkCells])
      have b1 : wr.cell? ⟨w.heap.size, 1, none⟩ = some (.slice A n cc) := blk_at HX.out 1 rfl
      go_wp2_with (fail)
      go_ret
      rw [HR.out]
      exact ⟨rfl, HB⟩
    obtain ⟨ad, A1, c1, hA1, e0, e1, hl1, hC1⟩ := at_T63 HC.out (k : Int) (by omega) (by rw [← Hn.out]; omega)
    subst hA1
    have hdr : l.drop k = rd_T63 l (k : Int) :: l.drop (k + 1) := drop_getD_C _ _ (by rw [← Hn.out]; exact hlt)
    have hpk : prevK l (k + 1) = some (rd_T63 l (k : Int)).f0 := by unfold prevK rd_T63; rw [if_neg (by omega), Int.toNat_natCast]; rfl
    have HPK := Lib.hid hpk
    have HDR := Lib.hid hdr
    clear hdr hpk
    generalize rd_T63 l (k : Int) = c at *
    rw [Int.toNat_natCast] at e0 e1
    replace e0 := pw_cell_below HB.out e0
    replace e1 := pw_cell_below HB.out e1
    have HCv := Lib.hid hC1
    obtain ⟨m, hm⟩ : ∃ m, m = c.f1.length := ⟨_, rfl⟩
    have Hm := Lib.hid hm
    rw [← hm] at e1 hl1 HCv
    have hmm : m ≤ 9223372036854775807 := Kd.C_max HCv.out
    clear hm hC1
    have HB2 : Hid (Below w.heap.size w (wr.alloc (.cells #[.string c.f0, .slice A1 m c1] 63))) := HB.out.alloc HB.out.size _
    have HX2 := Lib.hid (blk_alloc HX.out (.cells #[.string c.f0, .slice A1 m c1] 63))
    have HXc := Lib.hid (blk_new wr (.cells #[.string c.f0, .slice A1 m c1] 63))
    have HV3 : Hid (chkS num l = _) := Lib.hid (HV.out.trans (by rw [HDR.out, chkCells_cons]))
    have b1 : wr.cell? ⟨w.heap.size, 1, none⟩ = some (.slice (some ad) n cc) := blk_at HX.out 1 rfl
    clear hl1 HB HX HV
    by_cases h12 : 12 < c.f0.size
    · have k4 : decide (12 < (c.f0.size : Int)) = true := decide_eq_true (by omega)
      have HR : Hid (chkS num l = 24) := Lib.hid (HV3.out.trans (if_pos h12))
      clear h12
      go_wp2_with (fail)
      go_ret
      rw [HR.out]
      exact ⟨rfl, HB2⟩
    have k4 : decide (12 < (c.f0.size : Int)) = false := decide_eq_false (by omega)
    replace HV3 : Hid (chkS num l = _) := Lib.hid (HV3.out.trans (if_neg h12))
    clear h12
    go_upto_region 11 with (fail)
    clear e0 e1 b1 k4
    obtain ⟨gc, hgc⟩ : ∃ g, g = wr.heap.size := ⟨_, rfl⟩
    rw [← hgc] at HXc ⊢
    clear hgc
    generalize wr.alloc (.cells #[.string c.f0, .slice A1 m c1] 63) = wa at *
    have h10 : wa.cell? ⟨gc, 0, none⟩ = some (.string c.f0) := blk_at HXc.out 0 rfl
    by_cases hk0 : k = 0
    · have k5 : decide (0 < (k : Int)) = false := decide_eq_false (by omega)
      have k5' : decide (0 < k) = false := decide_eq_false (by omega)
      have HK0 := Lib.hid hk0
      clear hk0
      refine start_ (n := 16) (S := (fun w' => w'.cell? ⟨gc, 0, none⟩ = some (.string c.f0))) (ds := []) #[false, false, false, false, false, false, false, false, false, false, false, false, false, false, false, false] (by kernel_rfl) rfl rfl h10 (fun hHeld => ?_)
      refine pure_ (i := 0) (N := some 37) (v := ?_) (a' := ?_) #[true, false, false, false, false, false, false, false, false, false, false, false, false, false, false, false] rfl rfl (by kernel_rfl) (fun _ _ _ h => h) (Or.inl ⟨by rfl, ?_⟩) ?_ ?_
      rotate_left
      · intro w'
        go_simp
        with_reducible rfl
      rotate_left
      · go_simp
        rfl
      refine pure_ (i := 1) (N := some 38) (v := ?_) (a' := ?_) #[true, true, false, false, false, false, false, false, false, false, false, false, false, false, false, false] rfl rfl (by kernel_rfl) (fun _ _ _ h => h) (Or.inl ⟨by rfl, ?_⟩) ?_ ?_
      rotate_left
      · intro w'
        go_simp
        with_reducible rfl
      rotate_left
      · go_simp
        rfl
      refine pure_ (i := 2) (N := some 39) (v := ?_) (a' := ?_) #[true, true, true, false, false, false, false, false, false, false, false, false, false, false, false, false] rfl rfl (by kernel_rfl) (fun _ _ _ h => h) (Or.inl ⟨by rfl, ?_⟩) ?_ ?_
      rotate_left
      · intro w'
        go_simp
        with_reducible rfl
      rotate_left
      · go_simp
        rfl
      refine pure_ (i := 3) (N := some 40) (v := undef) (a' := ?_) #[true, true, true, true, false, false, false, false, false, false, false, false, false, false, false, false] rfl rfl (by kernel_rfl) (fun _ _ _ h => h) (Or.inr ⟨by rfl, rfl⟩) ?_ ?_
      rotate_left
      · go_simp
        rfl
      refine pure_ (i := 4) (N := some 41) (v := undef) (a' := ?_) #[true, true, true, true, true, false, false, false, false, false, false, false, false, false, false, false] rfl rfl (by kernel_rfl) (fun _ _ _ h => h) (Or.inr ⟨by rfl, rfl⟩) ?_ ?_
      rotate_left
      · go_simp
        rfl
      refine pure_ (i := 5) (N := some 42) (v := undef) (a' := ?_) #[true, true, true, true, true, true, false, false, false, false, false, false, false, false, false, false] rfl rfl (by kernel_rfl) (fun _ _ _ h => h) (Or.inr ⟨by rfl, rfl⟩) ?_ ?_
      rotate_left
      · go_simp
        rfl
      refine pure_ (i := 6) (N := some 43) (v := undef) (a' := ?_) #[true, true, true, true, true, true, true, false, false, false, false, false, false, false, false, false] rfl rfl (by kernel_rfl) (fun _ _ _ h => h) (Or.inr ⟨by rfl, rfl⟩) ?_ ?_
      rotate_left
      · go_simp
        rfl
      refine pure_ (i := 7) (N := some 44) (v := undef) (a' := ?_) #[true, true, true, true, true, true, true, true, false, false, false, false, false, false, false, false] rfl rfl (by kernel_rfl) (fun _ _ _ h => h) (Or.inr ⟨by rfl, rfl⟩) ?_ ?_
      rotate_left
      · go_simp
        rfl
      refine pure_ (i := 8) (N := some 45) (v := undef) (a' := ?_) #[true, true, true, true, true, true, true, true, true, false, false, false, false, false, false, false] rfl rfl (by kernel_rfl) (fun _ _ _ h => h) (Or.inr ⟨by rfl, rfl⟩) ?_ ?_
      rotate_left
      · go_simp
        rfl
      refine pure_ (i := 9) (N := some 46) (v := undef) (a' := ?_) #[true, true, true, true, true, true, true, true, true, true, false, false, false, false, false, false] rfl rfl (by kernel_rfl) (fun _ _ _ h => h) (Or.inr ⟨by rfl, rfl⟩) ?_ ?_
      rotate_left
      · go_simp
        rfl
      refine pure_ (i := 10) (N := some 47) (v := undef) (a' := ?_) #[true, true, true, true, true, true, true, true, true, true, true, false, false, false, false, false] rfl rfl (by kernel_rfl) (fun _ _ _ h => h) (Or.inr ⟨by rfl, rfl⟩) ?_ ?_
      rotate_left
      · go_simp
        rfl
      refine pure_ (i := 11) (N := some 48) (v := undef) (a' := ?_) #[true, true, true, true, true, true, true, true, true, true, true, true, false, false, false, false] rfl rfl (by kernel_rfl) (fun _ _ _ h => h) (Or.inr ⟨by rfl, rfl⟩) ?_ ?_
      rotate_left
      · go_simp
        rfl
      refine pure_ (i := 12) (N := some 49) (v := undef) (a' := ?_) #[true, true, true, true, true, true, true, true, true, true, true, true, true, false, false, false] rfl rfl (by kernel_rfl) (fun _ _ _ h => h) (Or.inr ⟨by rfl, rfl⟩) ?_ ?_
      rotate_left
      · go_simp
        rfl
      refine pure_ (i := 13) (N := some 50) (v := undef) (a' := ?_) #[true, true, true, true, true, true, true, true, true, true, true, true, true, true, false, false] rfl rfl (by kernel_rfl) (fun _ _ _ h => h) (Or.inr ⟨by rfl, rfl⟩) ?_ ?_
      rotate_left
      · go_simp
        rfl
      refine pure_ (i := 14) (N := some 51) (v := ?_) (a' := ?_) #[true, true, true, true, true, true, true, true, true, true, true, true, true, true, true, false] rfl rfl (by kernel_rfl) (fun _ _ _ h => h) (Or.inl ⟨by rfl, ?_⟩) ?_ ?_
      rotate_left
      · intro w'
        go_simp
        with_reducible rfl
      rotate_left
      · go_simp
        rfl
      refine pure_ (i := 15) (N := some 36) (v := ?_) (a' := ?_) #[true, true, true, true, true, true, true, true, true, true, true, true, true, true, true, true] rfl rfl (by kernel_rfl) (fun _ _ _ h => h) (Or.inl ⟨by rfl, ?_⟩) ?_ ?_
      rotate_left
      · intro w'
        go_simp
        with_reducible rfl
      rotate_left
      · go_simp
        rfl
      refine done_ (by kernel_rfl) ?_
      clear h10 k5 k5'
      have HVK : Hid (chkS num l = _) := Lib.hid (HV3.out.trans (if_neg (by rw [HK0.out]; simp [prevK, notAbove])))
      have HB3 : Hid (Below w.heap.size w wa.drew) := HB2.out.drew
      have HXd : Hid (wa.drew.heap[w.heap.size]? = some (.cells #[.int .i64 num, .slice (some ad) n cc] 24 (0, 0))) := HX2.out
      have HCd : Hid (wa.drew.heap[gc]? = some (.cells #[.string c.f0, .slice A1 m c1] 63 (0, 0))) := HXc.out
      have h11 : wa.drew.cell? ⟨gc, 1, none⟩ = some (.slice A1 m c1) := blk_at HCd.out 1 rfl
      clear HB2 HX2 HXc HV3
      generalize wa.drew = wd at *
      by_cases h6 : 6 < m
      · have k6 : decide (6 < (m : Int)) = true := decide_eq_true (by omega)
        have HR : Hid (chkS num l = 27) := Lib.hid (by rw [HVK.out, if_pos (by rw [← Hm.out]; exact h6)])
        clear h6
        go_wp2_with (fail)
        go_ret
        rw [HR.out]
        exact ⟨rfl, HB3⟩
      have k6 : decide (6 < (m : Int)) = false := decide_eq_false (by omega)
      replace HVK : Hid (chkS num l = _) := Lib.hid (HVK.out.trans (if_neg (by rw [← Hm.out]; exact h6)))
      clear h6
      go_wp2_with (fail)
      go_loopw [5, 6] (fun v5 v6 wr => ∃ j : Nat, j ≤ m ∧ v5 = .int .i64 j ∧ Hid (chkVals c.f1 = chkVals (c.f1.drop j)) ∧ Hid (Below w.heap.size w wr) ∧ Hid (wr.heap[w.heap.size]? = some (.cells #[.int .i64 num, .slice (some ad) n cc] 24 (0, 0))) ∧ Hid (wr.heap[gc]? = some (.cells #[.string c.f0, .slice A1 m c1] 63 (0, 0)))) (fun v5 _ _ => m - (intOf v5).toNat)
      case atStart => exact ⟨0, Nat.zero_le _, rfl, rfl, HB3, HXd, HCd⟩
      case round =>
        clear HB3 k6 HXd HCd h11
        obtain ⟨j, hj, rfl, HVV, HBi, HXi, HCi⟩ := hrel
        have h11 : wr.cell? ⟨gc, 1, none⟩ = some (.slice A1 m c1) := blk_at HCi.out 1 rfl
        by_cases hjl : j < m
        rotate_left
        · obtain rfl : m = j := by omega
          have h0 : chkVals c.f1 = 0 := by rw [HVV.out, List.drop_eq_nil_of_le (by rw [← Hm.out]; exact Nat.le_refl _), chkVals]
          have HVN : Hid (chkS num l = chkCells (some c.f0) (l.drop (k + 1))) := Lib.hid (by rw [HVK.out, if_neg (by rw [h0]; simp)])
          clear h0
          go_wp2_with (fail)
          go_roundw
          case rel => exact ⟨k + 1, by omega, by go_num, by rw [HPK.out]; exact HVN, HBi, HXi⟩
          case measure => simp [intOf]; omega
        obtain ⟨ad3, A3, c3, hA3, e0, e1, e2, e3, hl3, hC3⟩ := at_T87 HCv.out (j : Int) (by omega) (by omega)
        subst hA3
        have hdr : c.f1.drop j = rd_T87 c.f1 (j : Int) :: c.f1.drop (j + 1) := by
          rw [List.drop_eq_getElem_cons (by rw [← Hm.out]; exact hjl)]
          unfold rd_T87
          rw [Int.toNat_natCast, List.getD_eq_getElem?_getD, List.getElem?_eq_getElem (by rw [← Hm.out]; exact hjl)]
          rfl
        have HDR := Lib.hid hdr
        clear hdr
        generalize rd_T87 c.f1 (j : Int) = y at *
        rw [Int.toNat_natCast] at e0 e1 e2 e3
        replace e0 := pw_cell_below HBi.out e0
        replace e1 := pw_cell_below HBi.out e1
        replace e2 := pw_cell_below HBi.out e2
        replace e3 := pw_cell_below HBi.out e3
        have HY := Lib.hid (rcheck53 y A3 c3 w wr hC3 HBi.out)
        clear hC3 hl3
        go_wp2_with (go_at_call 53; refine HY.out.mono ?_; rintro e w2 ⟨rfl, hb2⟩
                     have HB2 : Hid (Below w.heap.size w w2) := Lib.hid (HBi.out.trans (hb2.out.mono HBi.out.size))
                     have HX2 : Hid (w2.heap[w.heap.size]? = some (.cells #[.int .i64 num, .slice (some ad) n cc] 24 (0, 0))) := blk_below HXi.out hb2.out
                     have HC2 := Lib.hid (blk_below HCi.out hb2.out)
                     clear hb2 HY e0 e1 e2 e3 h11
                     generalize hz : (chkV y 0 0).1 = z at *
                     have HZ := Lib.hid hz
                     clear hz
                     by_cases hz0 : z = 0)
        · have HVV2 : Hid (chkVals c.f1 = chkVals (c.f1.drop (j + 1))) := Lib.hid (by rw [HVV.out, HDR.out, chkVals, if_neg (by rw [HZ.out, hz0]; simp)])
          subst hz0
          go_wp2_with (fail)
          go_roundw
          case rel => exact ⟨j + 1, by omega, by go_num, HVV2, HB2, HX2, HC2⟩
          case measure => simp [intOf]; omega
        · have hcv : chkVals c.f1 = z := by rw [HVV.out, HDR.out, chkVals, if_pos (by rw [HZ.out]; exact hz0), HZ.out]
          have HR : Hid (chkS num l = z) := Lib.hid (by rw [HVK.out, if_pos (by rw [hcv]; exact hz0), hcv])
          have k1 : (z == 0) = false := beq_false_of_ne hz0
          have k2 : (z != 0) = true := by simp [hz0]
          clear hz0 hcv
          go_wp2_with (fail)
          go_ret
          rw [HR.out]
          exact ⟨rfl, HB2⟩
    obtain ⟨kk, hkk⟩ : ∃ kk, k = kk + 1 := ⟨k - 1, by omega⟩
    obtain ⟨ad', A2, c2, hA2, p0, p1, hl2, hC2⟩ := at_T63 HC.out (kk : Int) (by omega) (by rw [← Hn.out]; omega)
    cases hA2
    rw [Int.toNat_natCast] at p0
    have hpv : prevK l k = some (rd_T63 l (kk : Int)).f0 := by rw [hkk]; unfold prevK rd_T63; rw [if_neg (by omega), Int.toNat_natCast]; rfl
    have HV4 : Hid (notAbove (prevK l k) c.f0 = !Op.bytesLess (rd_T63 l (kk : Int)).f0.toList c.f0.toList) := Lib.hid (by rw [hpv]; exact kle_less _ _)
    generalize rd_T63 l (kk : Int) = pr at *
    replace p0 := pw_cell_below HB2.out p0
    have b1 : wa.cell? ⟨w.heap.size, 1, none⟩ = some (.slice (some ad) n cc) := blk_at HX2.out 1 rfl
    clear p1 hl2 hC2 hk0 hpv
    have k5 : (0 : Int) < (k : Int) := by omega
    have k5' : 0 < k := by omega
    have k7 : IntKind.i64.wrap (kk : Int) = (kk : Int) := by rw [IntKind.wrap_i64] <;> omega
    have k8 : (0 : Int) ≤ (kk : Int) := by omega
    have k9 : (kk : Int) < (n : Int) := by omega
    have k10 : (k : Int) - 1 = (kk : Int) := by omega
    clear hkk
    generalize hbl : Op.bytesLess pr.f0.toList c.f0.toList = bl at HV4
    refine start_ (n := 16) (S := (fun w' => w'.cell? ⟨gc, 0, none⟩ = some (.string c.f0) ∧ w'.cell? ⟨w.heap.size, 1, none⟩ = some (.slice (some ad) n cc) ∧ w'.cell? (ad.add (kk * 2)) = some (.string pr.f0))) (ds := []) #[false, false, false, false, false, false, false, false, false, false, false, false, false, false, false, false] (by kernel_rfl) rfl rfl ⟨h10, b1, p0⟩ (fun hHeld => ?_)
    refine pure_ (i := 0) (N := some 37) (v := ?_) (a' := ?_) #[true, false, false, false, false, false, false, false, false, false, false, false, false, false, false, false] rfl rfl (by kernel_rfl) (fun _ _ _ h => h) (Or.inl ⟨by rfl, ?_⟩) ?_ ?_
    rotate_left
    · intro w'
      go_simp
      with_reducible rfl
    rotate_left
    · go_simp
      rfl
    refine pure_ (i := 1) (N := some 38) (v := ?_) (a' := ?_) #[true, true, false, false, false, false, false, false, false, false, false, false, false, false, false, false] rfl rfl (by kernel_rfl) (fun _ _ _ h => h) (Or.inl ⟨by rfl, ?_⟩) ?_ ?_
    rotate_left
    · intro w'
      go_simp
      with_reducible rfl
    rotate_left
    · go_simp
      rfl
    refine pure_ (i := 2) (N := some 39) (v := ?_) (a' := ?_) #[true, true, true, false, false, false, false, false, false, false, false, false, false, false, false, false] rfl rfl (by kernel_rfl) (fun _ _ _ h => h) (Or.inl ⟨by rfl, ?_⟩) ?_ ?_
    rotate_left
    · intro w'
      go_simp
      with_reducible rfl
    rotate_left
    · go_simp
      rfl
    refine pure_ (i := 3) (N := some 40) (v := ?_) (a' := ?_) #[true, true, true, true, false, false, false, false, false, false, false, false, false, false, false, false] rfl rfl (by kernel_rfl) (fun _ _ _ h => h) (Or.inl ⟨by rfl, ?_⟩) ?_ ?_
    rotate_left
    · intro w'
      go_simp
      with_reducible rfl
    rotate_left
    · go_simp
      rfl
    refine take_ (i := 4) (N := some 41) (v := ?_) (a' := ?_) #[true, true, true, true, true, false, false, false, false, false, false, false, false, false, false, false] rfl rfl (by kernel_rfl) (fun _ _ _ h => h) (Or.inl ⟨by rfl, ?_⟩) hHeld ?_ ?_
    rotate_left
    · rintro w' ⟨s0, s1, s2⟩
      go_simp
      with_reducible rfl
    rotate_left
    · go_simp
      rfl
    refine pure_ (i := 5) (N := some 42) (v := ?_) (a' := ?_) #[true, true, true, true, true, true, false, false, false, false, false, false, false, false, false, false] rfl rfl (by kernel_rfl) (fun _ _ _ h => h) (Or.inl ⟨by rfl, ?_⟩) ?_ ?_
    rotate_left
    · intro w'
      go_simp
      with_reducible rfl
    rotate_left
    · go_simp
      rfl
    refine pure_ (i := 6) (N := some 43) (v := ?_) (a' := ?_) #[true, true, true, true, true, true, true, false, false, false, false, false, false, false, false, false] rfl rfl (by kernel_rfl) (fun _ _ _ h => h) (Or.inl ⟨by rfl, ?_⟩) ?_ ?_
    rotate_left
    · intro w'
      go_simp
      with_reducible rfl
    rotate_left
    · go_simp
      rfl
    refine pure_ (i := 7) (N := some 44) (v := ?_) (a' := ?_) #[true, true, true, true, true, true, true, true, false, false, false, false, false, false, false, false] rfl rfl (by kernel_rfl) (fun _ _ _ h => h) (Or.inl ⟨by rfl, ?_⟩) ?_ ?_
    rotate_left
    · intro w'
      go_simp
      with_reducible rfl
    rotate_left
    · go_simp
      rfl
    refine pure_ (i := 8) (N := some 45) (v := ?_) (a' := ?_) #[true, true, true, true, true, true, true, true, true, false, false, false, false, false, false, false] rfl rfl (by kernel_rfl) (fun _ _ _ h => h) (Or.inl ⟨by rfl, ?_⟩) ?_ ?_
    rotate_left
    · intro w'
      go_simp
      with_reducible rfl
    rotate_left
    · go_simp
      rfl
    refine take_ (i := 9) (N := some 46) (v := ?_) (a' := ?_) #[true, true, true, true, true, true, true, true, true, true, false, false, false, false, false, false] rfl rfl (by kernel_rfl) (fun _ _ _ h => h) (Or.inl ⟨by rfl, ?_⟩) hHeld ?_ ?_
    rotate_left
    · rintro w' ⟨s0, s1, s2⟩
      go_simp
      with_reducible rfl
    rotate_left
    · go_simp
      rfl
    refine pure_ (i := 10) (N := some 47) (v := ?_) (a' := ?_) #[true, true, true, true, true, true, true, true, true, true, true, false, false, false, false, false] rfl rfl (by kernel_rfl) (fun _ _ _ h => h) (Or.inl ⟨by rfl, ?_⟩) ?_ ?_
    rotate_left
    · intro w'
      go_simp
      with_reducible rfl
    rotate_left
    · go_simp
      rfl
    refine take_ (i := 11) (N := some 48) (v := ?_) (a' := ?_) #[true, true, true, true, true, true, true, true, true, true, true, true, false, false, false, false] rfl rfl (by kernel_rfl) (fun _ _ _ h => h) (Or.inl ⟨by rfl, ?_⟩) hHeld ?_ ?_
    rotate_left
    · rintro w' ⟨s0, s1, s2⟩
      go_simp
      with_reducible rfl
    rotate_left
    · go_simp
      rfl
    refine pure_ (i := 12) (N := some 49) (v := ?_) (a' := ?_) #[true, true, true, true, true, true, true, true, true, true, true, true, true, false, false, false] rfl rfl (by kernel_rfl) (fun _ _ _ h => h) (Or.inl ⟨by rfl, ?_⟩) ?_ ?_
    rotate_left
    · intro w'
      go_simp
      with_reducible rfl
    rotate_left
    · go_simp
      rfl
    refine pure_ (i := 13) (N := some 50) (v := ?_) (a' := ?_) #[true, true, true, true, true, true, true, true, true, true, true, true, true, true, false, false] rfl rfl (by kernel_rfl) (fun _ _ _ h => h) (Or.inl ⟨by rfl, ?_⟩) ?_ ?_
    rotate_left
    · intro w'
      go_simp
      with_reducible rfl
    rotate_left
    · go_simp
      rfl
    refine pure_ (i := 14) (N := some 51) (v := ?_) (a' := ?_) #[true, true, true, true, true, true, true, true, true, true, true, true, true, true, true, false] rfl rfl (by kernel_rfl) (fun _ _ _ h => h) (Or.inl ⟨by rfl, ?_⟩) ?_ ?_
    rotate_left
    · intro w'
      go_simp
      with_reducible rfl
    rotate_left
    · go_simp
      rfl
    refine pure_ (i := 15) (N := some 36) (v := ?_) (a' := ?_) #[true, true, true, true, true, true, true, true, true, true, true, true, true, true, true, true] rfl rfl (by kernel_rfl) (fun _ _ _ h => h) (Or.inl ⟨by rfl, ?_⟩) ?_ ?_
    rotate_left
    · intro w'
      go_simp
      with_reducible rfl
    rotate_left
    · go_simp
      rfl
    refine done_ (by kernel_rfl) ?_
    clear h10 b1 p0 k5 k5' k7 k8 k9 k10
    clear hbl
    have HB3 : Hid (Below w.heap.size w wa.drew) := HB2.out.drew
    have HXd : Hid (wa.drew.heap[w.heap.size]? = some (.cells #[.int .i64 num, .slice (some ad) n cc] 24 (0, 0))) := HX2.out
    have HCd : Hid (wa.drew.heap[gc]? = some (.cells #[.string c.f0, .slice A1 m c1] 63 (0, 0))) := HXc.out
    have h11 : wa.drew.cell? ⟨gc, 1, none⟩ = some (.slice A1 m c1) := blk_at HCd.out 1 rfl
    clear HB2 HX2 HXc
    generalize wa.drew = wd at *
    cases bl with
    | false =>
      have HR : Hid (chkS num l = 27) := Lib.hid (HV3.out.trans (if_pos HV4.out))
      go_wp2_with (fail)
      go_ret
      rw [HR.out]
      exact ⟨rfl, HB3⟩
    | true =>
      have HVK : Hid (chkS num l = _) := Lib.hid (HV3.out.trans (if_neg (by rw [HV4.out]; simp)))
      clear HV3 HV4
      simp only [Bool.not_true]
      by_cases h6 : 6 < m
      · have k6 : decide (6 < (m : Int)) = true := decide_eq_true (by omega)
        have HR : Hid (chkS num l = 27) := Lib.hid (by rw [HVK.out, if_pos (by rw [← Hm.out]; exact h6)])
        clear h6
        go_wp2_with (fail)
        go_ret
        rw [HR.out]
        exact ⟨rfl, HB3⟩
      have k6 : decide (6 < (m : Int)) = false := decide_eq_false (by omega)
      replace HVK : Hid (chkS num l = _) := Lib.hid (HVK.out.trans (if_neg (by rw [← Hm.out]; exact h6)))
      clear h6
      go_wp2_with (fail)
      go_loopw [5, 6] (fun v5 v6 wr => ∃ j : Nat, j ≤ m ∧ v5 = .int .i64 j ∧ Hid (chkVals c.f1 = chkVals (c.f1.drop j)) ∧ Hid (Below w.heap.size w wr) ∧ Hid (wr.heap[w.heap.size]? = some (.cells #[.int .i64 num, .slice (some ad) n cc] 24 (0, 0))) ∧ Hid (wr.heap[gc]? = some (.cells #[.string c.f0, .slice A1 m c1] 63 (0, 0)))) (fun v5 _ _ => m - (intOf v5).toNat)
      case atStart => exact ⟨0, Nat.zero_le _, rfl, rfl, HB3, HXd, HCd⟩
      case round =>
        clear HB3 k6 HXd HCd h11
        obtain ⟨j, hj, rfl, HVV, HBi, HXi, HCi⟩ := hrel
        have h11 : wr.cell? ⟨gc, 1, none⟩ = some (.slice A1 m c1) := blk_at HCi.out 1 rfl
        by_cases hjl : j < m
        rotate_left
        · obtain rfl : m = j := by omega
          have h0 : chkVals c.f1 = 0 := by rw [HVV.out, List.drop_eq_nil_of_le (by rw [← Hm.out]; exact Nat.le_refl _), chkVals]
          have HVN : Hid (chkS num l = chkCells (some c.f0) (l.drop (k + 1))) := Lib.hid (by rw [HVK.out, if_neg (by rw [h0]; simp)])
          clear h0
          go_wp2_with (fail)
          go_roundw
          case rel => exact ⟨k + 1, by omega, by go_num, by rw [HPK.out]; exact HVN, HBi, HXi⟩
          case measure => simp [intOf]; omega
        obtain ⟨ad3, A3, c3, hA3, e0, e1, e2, e3, hl3, hC3⟩ := at_T87 HCv.out (j : Int) (by omega) (by omega)
        subst hA3
        have hdr : c.f1.drop j = rd_T87 c.f1 (j : Int) :: c.f1.drop (j + 1) := by
          rw [List.drop_eq_getElem_cons (by rw [← Hm.out]; exact hjl)]
          unfold rd_T87
          rw [Int.toNat_natCast, List.getD_eq_getElem?_getD, List.getElem?_eq_getElem (by rw [← Hm.out]; exact hjl)]
          rfl
        have HDR := Lib.hid hdr
        clear hdr
        generalize rd_T87 c.f1 (j : Int) = y at *
        rw [Int.toNat_natCast] at e0 e1 e2 e3
        replace e0 := pw_cell_below HBi.out e0
        replace e1 := pw_cell_below HBi.out e1
        replace e2 := pw_cell_below HBi.out e2
        replace e3 := pw_cell_below HBi.out e3
        have HY := Lib.hid (rcheck53 y A3 c3 w wr hC3 HBi.out)
        clear hC3 hl3
        go_wp2_with (go_at_call 53; refine HY.out.mono ?_; rintro e w2 ⟨rfl, hb2⟩
                     have HB2 : Hid (Below w.heap.size w w2) := Lib.hid (HBi.out.trans (hb2.out.mono HBi.out.size))
                     have HX2 : Hid (w2.heap[w.heap.size]? = some (.cells #[.int .i64 num, .slice (some ad) n cc] 24 (0, 0))) := blk_below HXi.out hb2.out
                     have HC2 := Lib.hid (blk_below HCi.out hb2.out)
                     clear hb2 HY e0 e1 e2 e3 h11
                     generalize hz : (chkV y 0 0).1 = z at *
                     have HZ := Lib.hid hz
                     clear hz
                     by_cases hz0 : z = 0)
        · have HVV2 : Hid (chkVals c.f1 = chkVals (c.f1.drop (j + 1))) := Lib.hid (by rw [HVV.out, HDR.out, chkVals, if_neg (by rw [HZ.out, hz0]; simp)])
          subst hz0
          go_wp2_with (fail)
          go_roundw
          case rel => exact ⟨j + 1, by omega, by go_num, HVV2, HB2, HX2, HC2⟩
          case measure => simp [intOf]; omega
        · have hcv : chkVals c.f1 = z := by rw [HVV.out, HDR.out, chkVals, if_pos (by rw [HZ.out]; exact hz0), HZ.out]
          have HR : Hid (chkS num l = z) := Lib.hid (by rw [HVK.out, if_pos (by rw [hcv]; exact hz0), hcv])
          have k1 : (z == 0) = false := beq_false_of_ne hz0
          have k2 : (z != 0) = true := by simp [hz0]
          clear hz0 hcv
          go_wp2_with (fail)
          go_ret
          rw [HR.out]
          exact ⟨rfl, HB2⟩
end Go.Proofs.Ytpplnhefpcofoaa.PDeltaJoin
