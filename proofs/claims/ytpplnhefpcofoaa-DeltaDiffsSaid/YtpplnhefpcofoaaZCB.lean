/- value.Check and CheckState. -/
import Derived.Test.YtpplnhefpcofoaaZCA
import Derived.Test.YtpplnhefpcofoaaZIC
import Derived.IntWalk
namespace Go.Proofs.Ytpplnhefpcofoaa.PDeltaJoin
open Go.RowKit Go.Proofs.YtpplnhefpcofoaaW.PrintWords Go.Proofs.YtpplnhefpcofoaaW.PrintLast
set_option linter.unusedVariables false
set_option linter.unusedSimpArgs false

def chkVals : List S87 → Int
  | [] => 0
  | y :: ys => if (chkV y 0 0).1 ≠ 0 then (chkV y 0 0).1 else chkVals ys
/-- Does this key not rise above the one ahead of it? -/
def notAbove (p : Option ByteArray) (k : ByteArray) : Bool := match p with
  | none => false
  | some q => kle k q
def chkCells (p : Option ByteArray) : List S63 → Int
  | [] => 0
  | c :: cs => if 12 < c.f0.size then 24 else if notAbove p c.f0 = true then 27 else if 6 < c.f1.length then 27 else if chkVals c.f1 ≠ 0 then chkVals c.f1 else chkCells (some c.f0) cs
/-- What CheckState tells. -/
def chkS (num : Int) (l : List S63) : Int := if num < 0 ∨ 1073741824 < num then 26 else if 64 < l.length then 27 else chkCells none l
def prevK (l : List S63) (k : Nat) : Option ByteArray := if k = 0 then none else some (l.getD (k - 1) z63).f0
set_option maxRecDepth 100000 in
set_option maxHeartbeats 16000000 in
theorem check50 (x : S87) (A : Option Addr) (c : Nat) (w0 w : World) (hC : Kd.C k87 w0 A x.f3.length x.f3) (hB : Below w0.heap.size w0 w) :
    Calls Try.prog 50 #[.agg #[.int .i64 x.f0, .int .i64 x.f1, .string x.f2, .slice A x.f3.length c]] w fun e w' => e = .returned (.int .i64 (chkV x 0 0).1) ∧ Hid (Below w.heap.size w w') := by
  have HX := Lib.hid (blk_new w (.cells #[.int .i64 x.f0, .int .i64 x.f1, .string x.f2, .slice A x.f3.length c] 87))
  obtain ⟨n, hn⟩ : ∃ n, n = x.f3.length := ⟨_, rfl⟩
  rw [← hn] at HX ⊢
  have HB1 : Hid (Below w.heap.size w ((w.alloc (.cells #[.int .i64 x.f0, .int .i64 x.f1, .string x.f2, .slice A n c] 87)).alloc (.cells #[.int .i64 0] 99))) := ((Below.refl _ _).alloc (Nat.le_refl _) _).alloc (by simp) _
  have hG : ((w.alloc (.cells #[.int .i64 x.f0, .int .i64 x.f1, .string x.f2, .slice A n c] 87)).alloc (.cells #[.int .i64 0] 99)).heap[w.heap.size + 1]? = some (.cells #[.int .i64 ((0 : Nat) : Int)] 99 (0, 0)) := by
    have := blk_new (w.alloc (.cells #[.int .i64 x.f0, .int .i64 x.f1, .string x.f2, .slice A n c] 87)) (.cells #[.int .i64 0] 99)
    rw [World.size_alloc] at this
    exact this
  have HX2 := Lib.hid (blk_alloc HX.out (.cells #[.int .i64 0] 99))
  have HY : Hid (Calls Try.prog 58 #[.pointer (some ⟨w.heap.size + 1, 0, none⟩), .agg #[.int .i64 x.f0, .int .i64 x.f1, .string x.f2, .slice A n c], .int .i64 0] _ _) := Lib.hid (by
    have := part58 _ x (Nat.le_refl _) A c w0 _ (w.heap.size + 1) 0 0 hC (hB.trans (HB1.out.mono hB.size)) (by have := hB.size; omega) hG (by omega) (by omega)
    rw [← hn] at this
    exact this)
  clear hC hG hn
  have x0 : ((w.alloc (.cells #[.int .i64 x.f0, .int .i64 x.f1, .string x.f2, .slice A n c] 87)).alloc (.cells #[.int .i64 0] 99)).cell? ⟨w.heap.size, 0, none⟩ = some (.int .i64 x.f0) := blk_at HX2.out 0 rfl
  have x1 : ((w.alloc (.cells #[.int .i64 x.f0, .int .i64 x.f1, .string x.f2, .slice A n c] 87)).alloc (.cells #[.int .i64 0] 99)).cell? ⟨w.heap.size, 1, none⟩ = some (.int .i64 x.f1) := blk_at HX2.out 1 rfl
  have x2 : ((w.alloc (.cells #[.int .i64 x.f0, .int .i64 x.f1, .string x.f2, .slice A n c] 87)).alloc (.cells #[.int .i64 0] 99)).cell? ⟨w.heap.size, 2, none⟩ = some (.string x.f2) := blk_at HX2.out 2 rfl
  have x3 : ((w.alloc (.cells #[.int .i64 x.f0, .int .i64 x.f1, .string x.f2, .slice A n c] 87)).alloc (.cells #[.int .i64 0] 99)).cell? ⟨w.heap.size, 3, none⟩ = some (.slice A n c) := blk_at HX2.out 3 rfl
  go_enter Try.func50, Try.ntmps50
  go_wp2_with (go_at_call 58; refine HY.out.mono ?_; rintro e w2 ⟨rfl, hg2, ho2⟩
               have HO2 : Hid (Below w.heap.size w w2) := Lib.hid (below_grown HB1.out ho2.out (by omega))
               clear hg2 ho2)
  go_ret
  exact ⟨rfl, HO2⟩
theorem chkS_num {num : Int} {l : List S63} (h : num < 0 ∨ 1073741824 < num) : chkS num l = 26 := if_pos h
theorem chkCells_cons (p : Option ByteArray) (c : S63) (cs : List S63) : chkCells p (c :: cs) = if 12 < c.f0.size then 24 else if notAbove p c.f0 = true then 27 else if 6 < c.f1.length then 27 else if chkVals c.f1 ≠ 0 then chkVals c.f1 else chkCells (some c.f0) cs := rfl
set_option maxRecDepth 100000 in
set_option maxHeartbeats 16000000 in
theorem checkState34 (num : Int) (l : List S63) (A : Option Addr) (cc : Nat) (w : World) (hC : Kd.C k63 w A l.length l) :
    Calls Try.prog 34 #[.agg #[.int .i64 num, .slice A l.length cc]] w fun e w' => e = .returned (.int .i64 (chkS num l)) ∧ Hid (Below w.heap.size w w') := by
  obtain ⟨n, hn⟩ : ∃ n, n = l.length := ⟨_, rfl⟩
  have HC := Lib.hid hC
  have Hn := Lib.hid hn
  have hnm : n ≤ 9223372036854775807 := by rw [hn]; exact Kd.C_max hC
  rw [← hn]
  clear hC hn
  have HX := Lib.hid (blk_new w (.cells #[.int .i64 num, .slice A n cc] 24))
  have HB0 : Hid (Below w.heap.size w (w.alloc (.cells #[.int .i64 num, .slice A n cc] 24))) := (Below.refl _ _).alloc (Nat.le_refl _) _
  have b0 : (w.alloc (.cells #[.int .i64 num, .slice A n cc] 24)).cell? ⟨w.heap.size, 0, none⟩ = some (.int .i64 num) := blk_at HX.out 0 rfl
  have b1 : (w.alloc (.cells #[.int .i64 num, .slice A n cc] 24)).cell? ⟨w.heap.size, 1, none⟩ = some (.slice A n cc) := blk_at HX.out 1 rfl
  by_cases h1 : num < 0
  · have k1 : decide (num < 0) = true := decide_eq_true h1
    have HR : Hid (chkS num l = 26) := Lib.hid (chkS_num (.inl h1))
    clear h1
    go_enter Try.func34, Try.ntmps34
    go_wp2_with (fail)
    go_ret
    rw [HR.out]
    exact ⟨rfl, HB0⟩
  have k1 : decide (num < 0) = false := decide_eq_false h1
  by_cases h2 : 1073741824 < num
  · have k2 : decide (1073741824 < num) = true := decide_eq_true h2
    have HR : Hid (chkS num l = 26) := Lib.hid (chkS_num (.inr h2))
    clear h1 h2
    go_enter Try.func34, Try.ntmps34
    go_wp2_with (fail)
    go_ret
    rw [HR.out]
    exact ⟨rfl, HB0⟩
  have k2 : decide (1073741824 < num) = false := decide_eq_false h2
  have HV1 : Hid (chkS num l = _) := Lib.hid (if_neg (by omega))
  clear h1 h2
  by_cases h3 : 64 < n
  · have k3 : decide (64 < (n : Int)) = true := decide_eq_true (by omega)
    have k3' : decide (64 < n) = true := decide_eq_true h3
    have HR : Hid (chkS num l = 27) := Lib.hid (HV1.out.trans (if_pos (by rw [← Hn.out]; exact h3)))
    clear h3
    go_enter Try.func34, Try.ntmps34
    go_wp2_with (fail)
    go_ret
    rw [HR.out]
    exact ⟨rfl, HB0⟩
  have k3 : decide (64 < (n : Int)) = false := decide_eq_false (by omega)
  have k3' : decide (64 < n) = false := decide_eq_false h3
  have HV2 : Hid (chkS num l = chkCells none l) := Lib.hid (HV1.out.trans (if_neg (by rw [← Hn.out]; exact h3)))
  clear HV1 h3
  go_enter Try.func34, Try.ntmps34
  go_wp2_with (fail)
  go_loopw [3, 4, 6, 7, 23] (fun v3 v4 v6 v7 v23 wr => ∃ k : Nat, k ≤ n ∧ v23 = .int .i64 k ∧ Hid (chkS num l = chkCells (prevK l k) (l.drop k)) ∧ Hid (Below w.heap.size w wr) ∧ Hid (wr.heap[w.heap.size]? = some (.cells #[.int .i64 num, .slice A n cc] 24 (0, 0)))) (fun _ _ _ _ v23 _ => n - (intOf v23).toNat)
  case atStart => exact ⟨0, Nat.zero_le _, rfl, HV2, HB0, HX⟩
  case round =>
    clear HV2 HB0 HX b0 b1 k1 k2 k3 k3'
    obtain ⟨k, hk, rfl, HV, HB, HX⟩ := hrel
    by_cases hlt : k < n
    rotate_left
    · obtain rfl : n = k := by omega
      have HR : Hid (chkS num l = 0) := Lib.hid (by rw [HV.out, List.drop_eq_nil_of_le (by rw [← Hn.out]; exact Nat.le_refl _), chkCells])
      go_wp2_with (fail)
      go_ret
      rw [HR.out]
      exact ⟨rfl, HB⟩
    obtain ⟨ad, A1, c1, hA1, e0, e1, hl1, hC1⟩ := at_T63 HC.out (k : Int) (by omega) (by rw [← Hn.out]; omega)
    subst hA1
    have hdr : l.drop k = rd_T63 l (k : Int) :: l.drop (k + 1) := drop_getD_C _ _ (by rw [← Hn.out]; exact hlt)
    have hpk : prevK l (k + 1) = some (rd_T63 l (k : Int)).f0 := by unfold prevK rd_T63; rw [if_neg (by omega), Int.toNat_natCast]; rfl
    have HPK := Lib.hid hpk
    have HDR := Lib.hid hdr
    clear hdr hpk
    generalize rd_T63 l (k : Int) = c at *
    rw [Int.toNat_natCast] at e0 e1
    replace e0 := pw_cell_below HB.out e0
    replace e1 := pw_cell_below HB.out e1
    have HCv := Lib.hid hC1
    obtain ⟨m, hm⟩ : ∃ m, m = c.f1.length := ⟨_, rfl⟩
    have Hm := Lib.hid hm
    rw [← hm] at e1 hl1 HCv
    have hmm : m ≤ 9223372036854775807 := Kd.C_max HCv.out
    clear hm hC1
    have HB2 : Hid (Below w.heap.size w (wr.alloc (.cells #[.string c.f0, .slice A1 m c1] 63))) := HB.out.alloc HB.out.size _
    have HX2 := Lib.hid (blk_alloc HX.out (.cells #[.string c.f0, .slice A1 m c1] 63))
    have HXc := Lib.hid (blk_new wr (.cells #[.string c.f0, .slice A1 m c1] 63))
    have HV3 : Hid (chkS num l = _) := Lib.hid (HV.out.trans (by rw [HDR.out, chkCells_cons]))
    have b1 : wr.cell? ⟨w.heap.size, 1, none⟩ = some (.slice (some ad) n cc) := blk_at HX.out 1 rfl
    clear hl1 HB HX HV
    by_cases h12 : 12 < c.f0.size
    · have k4 : decide (12 < (c.f0.size : Int)) = true := decide_eq_true (by omega)
      have HR : Hid (chkS num l = 24) := Lib.hid (HV3.out.trans (if_pos h12))
      clear h12
      go_wp2_with (fail)
      go_ret
      rw [HR.out]
      exact ⟨rfl, HB2⟩
    have k4 : decide (12 < (c.f0.size : Int)) = false := decide_eq_false (by omega)
    replace HV3 : Hid (chkS num l = _) := Lib.hid (HV3.out.trans (if_neg h12))
    clear h12
    go_upto_region 10 with (fail)
    clear e0 e1 b1 k4
    generalize wr.alloc (.cells #[.string c.f0, .slice A1 m c1] 63) = wa at *
    have h10 : wa.cell? ⟨wr.heap.size, 0, none⟩ = some (.string c.f0) := blk_at HXc.out 0 rfl
    have h11 : wa.cell? ⟨wr.heap.size, 1, none⟩ = some (.slice A1 m c1) := blk_at HXc.out 1 rfl
    by_cases hk0 : k = 0
    · have k5 : decide (0 < (k : Int)) = false := decide_eq_false (by omega)
      have k5' : decide (0 < k) = false := decide_eq_false (by omega)
      have HK0 := Lib.hid hk0
      clear hk0
      refine start_ (n := 14) (S := (fun w' => w'.cell? ⟨wr.heap.size, 0, none⟩ = some (.string c.f0))) (ds := []) #[false, false, false, false, false, false, false, false, false, false, false, false, false, false] (by kernel_rfl) rfl rfl h10 (fun hHeld => ?_)
      refine pure_ (i := 0) (N := some 32) (v := ?_) (a' := ?_) #[true, false, false, false, false, false, false, false, false, false, false, false, false, false] rfl rfl (by kernel_rfl) (fun _ _ _ h => h) (Or.inl ⟨by rfl, ?_⟩) ?_ ?_
      rotate_left
      · intro w'
        go_simp
        with_reducible rfl
      rotate_left
      · go_simp
        rfl
      refine pure_ (i := 1) (N := some 33) (v := ?_) (a' := ?_) #[true, true, false, false, false, false, false, false, false, false, false, false, false, false] rfl rfl (by kernel_rfl) (fun _ _ _ h => h) (Or.inl ⟨by rfl, ?_⟩) ?_ ?_
      rotate_left
      · intro w'
        go_simp
        with_reducible rfl
      rotate_left
      · go_simp
        rfl
      refine pure_ (i := 2) (N := some 34) (v := ?_) (a' := ?_) #[true, true, true, false, false, false, false, false, false, false, false, false, false, false] rfl rfl (by kernel_rfl) (fun _ _ _ h => h) (Or.inl ⟨by rfl, ?_⟩) ?_ ?_
      rotate_left
      · intro w'
        go_simp
        with_reducible rfl
      rotate_left
      · go_simp
        rfl
      refine pure_ (i := 3) (N := some 35) (v := undef) (a' := ?_) #[true, true, true, true, false, false, false, false, false, false, false, false, false, false] rfl rfl (by kernel_rfl) (fun _ _ _ h => h) (Or.inr ⟨by rfl, rfl⟩) ?_ ?_
      rotate_left
      · go_simp
        rfl
      refine pure_ (i := 4) (N := some 36) (v := undef) (a' := ?_) #[true, true, true, true, true, false, false, false, false, false, false, false, false, false] rfl rfl (by kernel_rfl) (fun _ _ _ h => h) (Or.inr ⟨by rfl, rfl⟩) ?_ ?_
      rotate_left
      · go_simp
        rfl
      refine pure_ (i := 5) (N := some 37) (v := undef) (a' := ?_) #[true, true, true, true, true, true, false, false, false, false, false, false, false, false] rfl rfl (by kernel_rfl) (fun _ _ _ h => h) (Or.inr ⟨by rfl, rfl⟩) ?_ ?_
      rotate_left
      · go_simp
        rfl
      refine pure_ (i := 6) (N := some 38) (v := undef) (a' := ?_) #[true, true, true, true, true, true, true, false, false, false, false, false, false, false] rfl rfl (by kernel_rfl) (fun _ _ _ h => h) (Or.inr ⟨by rfl, rfl⟩) ?_ ?_
      rotate_left
      · go_simp
        rfl
      refine pure_ (i := 7) (N := some 39) (v := undef) (a' := ?_) #[true, true, true, true, true, true, true, true, false, false, false, false, false, false] rfl rfl (by kernel_rfl) (fun _ _ _ h => h) (Or.inr ⟨by rfl, rfl⟩) ?_ ?_
      rotate_left
      · go_simp
        rfl
      refine pure_ (i := 8) (N := some 40) (v := undef) (a' := ?_) #[true, true, true, true, true, true, true, true, true, false, false, false, false, false] rfl rfl (by kernel_rfl) (fun _ _ _ h => h) (Or.inr ⟨by rfl, rfl⟩) ?_ ?_
      rotate_left
      · go_simp
        rfl
      refine pure_ (i := 9) (N := some 41) (v := undef) (a' := ?_) #[true, true, true, true, true, true, true, true, true, true, false, false, false, false] rfl rfl (by kernel_rfl) (fun _ _ _ h => h) (Or.inr ⟨by rfl, rfl⟩) ?_ ?_
      rotate_left
      · go_simp
        rfl
      refine pure_ (i := 10) (N := some 42) (v := undef) (a' := ?_) #[true, true, true, true, true, true, true, true, true, true, true, false, false, false] rfl rfl (by kernel_rfl) (fun _ _ _ h => h) (Or.inr ⟨by rfl, rfl⟩) ?_ ?_
      rotate_left
      · go_simp
        rfl
      refine pure_ (i := 11) (N := some 43) (v := undef) (a' := ?_) #[true, true, true, true, true, true, true, true, true, true, true, true, false, false] rfl rfl (by kernel_rfl) (fun _ _ _ h => h) (Or.inr ⟨by rfl, rfl⟩) ?_ ?_
      rotate_left
      · go_simp
        rfl
      refine pure_ (i := 12) (N := some 44) (v := undef) (a' := ?_) #[true, true, true, true, true, true, true, true, true, true, true, true, true, false] rfl rfl (by kernel_rfl) (fun _ _ _ h => h) (Or.inr ⟨by rfl, rfl⟩) ?_ ?_
      rotate_left
      · go_simp
        rfl
      refine pure_ (i := 13) (N := some 45) (v := ?_) (a' := ?_) #[true, true, true, true, true, true, true, true, true, true, true, true, true, true] rfl rfl (by kernel_rfl) (fun _ _ _ h => h) (Or.inl ⟨by rfl, ?_⟩) ?_ ?_
      rotate_left
      · intro w'
        go_simp
        with_reducible rfl
      rotate_left
      · go_simp
        rfl
      refine done_ (by kernel_rfl) ?_
      clear h10 k5 k5'
      have HVK : Hid (chkS num l = _) := Lib.hid (HV3.out.trans (if_neg (by rw [HK0.out]; simp [prevK, notAbove])))
      have HB3 : Hid (Below w.heap.size w wa.drew) := HB2.out.drew
      have HXd : Hid (wa.drew.heap[w.heap.size]? = some (.cells #[.int .i64 num, .slice (some ad) n cc] 24 (0, 0))) := HX2.out
      replace h11 : wa.drew.cell? ⟨wr.heap.size, 1, none⟩ = some (.slice A1 m c1) := h11
      clear HB2 HX2 HXc HV3
      generalize wa.drew = wd at *
      by_cases h6 : 6 < m
      · have k6 : decide (6 < (m : Int)) = true := decide_eq_true (by omega)
        have HR : Hid (chkS num l = 27) := Lib.hid (by rw [HVK.out, if_pos (by rw [← Hm.out]; exact h6)])
        clear h6
        go_wp2_with (fail)
        go_ret
        rw [HR.out]
        exact ⟨rfl, HB3⟩
      have k6 : decide (6 < (m : Int)) = false := decide_eq_false (by omega)
      replace HVK : Hid (chkS num l = _) := Lib.hid (HVK.out.trans (if_neg (by rw [← Hm.out]; exact h6)))
      clear h6
      go_wp2_with (fail)
      generalize wr.heap.size = gc at *
      go_loopw [6, 7, 53] (fun v6 v7 v53 wr => ∃ j : Nat, j ≤ m ∧ v53 = .int .i64 j ∧ Hid (chkVals c.f1 = chkVals (c.f1.drop j)) ∧ Hid (Below w.heap.size w wr) ∧ Hid (wr.heap[w.heap.size]? = some (.cells #[.int .i64 num, .slice (some ad) n cc] 24 (0, 0)))) (fun _ _ v53 _ => m - (intOf v53).toNat)
      case atStart => exact ⟨0, Nat.zero_le _, rfl, rfl, HB3, HXd⟩
      case round =>
        clear HB3 k6 HXd
        obtain ⟨j, hj, rfl, HVV, HBi, HXi⟩ := hrel
        by_cases hjl : j < m
        rotate_left
        · obtain rfl : m = j := by omega
          have h0 : chkVals c.f1 = 0 := by rw [HVV.out, List.drop_eq_nil_of_le (by rw [← Hm.out]; exact Nat.le_refl _), chkVals]
          have HVN : Hid (chkS num l = chkCells (some c.f0) (l.drop (k + 1))) := Lib.hid (by rw [HVK.out, if_neg (by rw [h0]; simp)])
          clear h0
          go_wp2_with (fail)
          go_roundw
          case rel => exact ⟨k + 1, by omega, by go_num, by rw [HPK.out]; exact HVN, HBi, HXi⟩
          case measure => simp [intOf]; omega
        obtain ⟨ad3, A3, c3, hA3, e0, e1, e2, e3, hl3, hC3⟩ := at_T87 HCv.out (j : Int) (by omega) (by omega)
        subst hA3
        have hdr : c.f1.drop j = rd_T87 c.f1 (j : Int) :: c.f1.drop (j + 1) := by
          rw [List.drop_eq_getElem_cons (by rw [← Hm.out]; exact hjl)]
          unfold rd_T87
          rw [Int.toNat_natCast, List.getD_eq_getElem?_getD, List.getElem?_eq_getElem (by rw [← Hm.out]; exact hjl)]
          rfl
        have HDR := Lib.hid hdr
        clear hdr
        generalize rd_T87 c.f1 (j : Int) = y at *
        rw [Int.toNat_natCast] at e0 e1 e2 e3
        replace e0 := pw_cell_below HBi.out e0
        replace e1 := pw_cell_below HBi.out e1
        replace e2 := pw_cell_below HBi.out e2
        replace e3 := pw_cell_below HBi.out e3
        have HBa : Hid (Below w.heap.size w (wr.alloc (.cells #[.int .i64 y.f0, .int .i64 y.f1, .string y.f2, .slice A3 y.f3.length c3] 87))) := HBi.out.alloc HBi.out.size _
        have HX1 : Hid ((wr.alloc (.cells #[.int .i64 y.f0, .int .i64 y.f1, .string y.f2, .slice A3 y.f3.length c3] 87)).heap[w.heap.size]? = some (.cells #[.int .i64 num, .slice (some ad) n cc] 24 (0, 0))) := blk_alloc HXi.out _
        have HXa := Lib.hid (blk_new wr (.cells #[.int .i64 y.f0, .int .i64 y.f1, .string y.f2, .slice A3 y.f3.length c3] 87))
        have HY := Lib.hid (check50 y A3 c3 w (wr.alloc (.cells #[.int .i64 y.f0, .int .i64 y.f1, .string y.f2, .slice A3 y.f3.length c3] 87)) hC3 HBa.out)
        clear hC3 hl3
        go_upto_region 17 with (fail)
        clear e0 e1 e2 e3
        generalize wr.alloc (.cells #[.int .i64 y.f0, .int .i64 y.f1, .string y.f2, .slice A3 y.f3.length c3] 87) = wa at *
        have y0 : wa.cell? ⟨wr.heap.size, 0, none⟩ = some (.int .i64 y.f0) := blk_at HXa.out 0 rfl
        have y1 : wa.cell? ⟨wr.heap.size, 1, none⟩ = some (.int .i64 y.f1) := blk_at HXa.out 1 rfl
        have y2 : wa.cell? ⟨wr.heap.size, 2, none⟩ = some (.string y.f2) := blk_at HXa.out 2 rfl
        have y3 : wa.cell? ⟨wr.heap.size, 3, none⟩ = some (.slice A3 y.f3.length c3) := blk_at HXa.out 3 rfl
        go_wp2_with (go_at_call 50; refine HY.out.mono ?_; rintro e w2 ⟨rfl, hb2⟩
                     have HB2 : Hid (Below w.heap.size w w2) := Lib.hid (HBa.out.trans (hb2.out.mono HBa.out.size))
                     have HX2 : Hid (w2.heap[w.heap.size]? = some (.cells #[.int .i64 num, .slice (some ad) n cc] 24 (0, 0))) := blk_below HX1.out hb2.out
                     clear hb2 HY y0 y1 y2 y3
                     generalize hz : (chkV y 0 0).1 = z at *
                     have HZ := Lib.hid hz
                     clear hz
                     by_cases hz0 : z = 0)
        · have HVV2 : Hid (chkVals c.f1 = chkVals (c.f1.drop (j + 1))) := Lib.hid (by rw [HVV.out, HDR.out, chkVals, if_neg (by rw [HZ.out, hz0]; simp)])
          subst hz0
          go_wp2_with (fail)
          go_roundw
          case rel => exact ⟨j + 1, by omega, by go_num, HVV2, HB2, HX2⟩
          case measure => simp [intOf]; omega
        · have hcv : chkVals c.f1 = z := by rw [HVV.out, HDR.out, chkVals, if_pos (by rw [HZ.out]; exact hz0), HZ.out]
          have HR : Hid (chkS num l = z) := Lib.hid (by rw [HVK.out, if_pos (by rw [hcv]; exact hz0), hcv])
          have k1 : (z == 0) = false := beq_false_of_ne hz0
          have k2 : (z != 0) = true := by simp [hz0]
          clear hz0 hcv
          go_wp2_with (fail)
          go_ret
          rw [HR.out]
          exact ⟨rfl, HB2⟩
    obtain ⟨kk, hkk⟩ : ∃ kk, k = kk + 1 := ⟨k - 1, by omega⟩
    obtain ⟨ad', A2, c2, hA2, p0, p1, hl2, hC2⟩ := at_T63 HC.out (kk : Int) (by omega) (by rw [← Hn.out]; omega)
    cases hA2
    rw [Int.toNat_natCast] at p0
    have hpv : prevK l k = some (rd_T63 l (kk : Int)).f0 := by rw [hkk]; unfold prevK rd_T63; rw [if_neg (by omega), Int.toNat_natCast]; rfl
    have HV4 : Hid (notAbove (prevK l k) c.f0 = kle c.f0 (rd_T63 l (kk : Int)).f0) := Lib.hid (by rw [hpv]; rfl)
    generalize rd_T63 l (kk : Int) = pr at *
    replace p0 := pw_cell_below HB2.out p0
    have b1 : wa.cell? ⟨w.heap.size, 1, none⟩ = some (.slice (some ad) n cc) := blk_at HX2.out 1 rfl
    clear p1 hl2 hC2 hk0 hpv
    have k5 : (0 : Int) < (k : Int) := by omega
    have k5' : 0 < k := by omega
    have k7 : IntKind.i64.wrap (kk : Int) = (kk : Int) := IntWalk.i64_in _ (by omega)
    have k8 : (0 : Int) ≤ (kk : Int) := by omega
    have k9 : (kk : Int) < (n : Int) := by omega
    have k10 : (k : Int) - 1 = (kk : Int) := by omega
    clear hkk
    refine start_ (n := 14) (S := (fun w' => w'.cell? ⟨wr.heap.size, 0, none⟩ = some (.string c.f0) ∧ w'.cell? ⟨w.heap.size, 1, none⟩ = some (.slice (some ad) n cc) ∧ w'.cell? (ad.add (kk * 2)) = some (.string pr.f0))) (ds := []) #[false, false, false, false, false, false, false, false, false, false, false, false, false, false] (by kernel_rfl) rfl rfl ⟨h10, b1, p0⟩ (fun hHeld => ?_)
    refine pure_ (i := 0) (N := some 32) (v := ?_) (a' := ?_) #[true, false, false, false, false, false, false, false, false, false, false, false, false, false] rfl rfl (by kernel_rfl) (fun _ _ _ h => h) (Or.inl ⟨by rfl, ?_⟩) ?_ ?_
    rotate_left
    · intro w'
      go_simp
      with_reducible rfl
    rotate_left
    · go_simp
      rfl
    refine pure_ (i := 1) (N := some 33) (v := ?_) (a' := ?_) #[true, true, false, false, false, false, false, false, false, false, false, false, false, false] rfl rfl (by kernel_rfl) (fun _ _ _ h => h) (Or.inl ⟨by rfl, ?_⟩) ?_ ?_
    rotate_left
    · intro w'
      go_simp
      with_reducible rfl
    rotate_left
    · go_simp
      rfl
    refine pure_ (i := 2) (N := some 34) (v := ?_) (a' := ?_) #[true, true, true, false, false, false, false, false, false, false, false, false, false, false] rfl rfl (by kernel_rfl) (fun _ _ _ h => h) (Or.inl ⟨by rfl, ?_⟩) ?_ ?_
    rotate_left
    · intro w'
      go_simp
      with_reducible rfl
    rotate_left
    · go_simp
      rfl
    refine pure_ (i := 3) (N := some 35) (v := ?_) (a' := ?_) #[true, true, true, true, false, false, false, false, false, false, false, false, false, false] rfl rfl (by kernel_rfl) (fun _ _ _ h => h) (Or.inl ⟨by rfl, ?_⟩) ?_ ?_
    rotate_left
    · intro w'
      go_simp
      with_reducible rfl
    rotate_left
    · go_simp
      rfl
    refine take_ (i := 4) (N := some 36) (v := ?_) (a' := ?_) #[true, true, true, true, true, false, false, false, false, false, false, false, false, false] rfl rfl (by kernel_rfl) (fun _ _ _ h => h) (Or.inl ⟨by rfl, ?_⟩) hHeld ?_ ?_
    rotate_left
    · rintro w' ⟨s0, s1, s2⟩
      go_simp
      with_reducible rfl
    rotate_left
    · go_simp
      rfl
    refine pure_ (i := 5) (N := some 37) (v := ?_) (a' := ?_) #[true, true, true, true, true, true, false, false, false, false, false, false, false, false] rfl rfl (by kernel_rfl) (fun _ _ _ h => h) (Or.inl ⟨by rfl, ?_⟩) ?_ ?_
    rotate_left
    · intro w'
      go_simp
      with_reducible rfl
    rotate_left
    · go_simp
      rfl
    refine take_ (i := 6) (N := some 38) (v := ?_) (a' := ?_) #[true, true, true, true, true, true, true, false, false, false, false, false, false, false] rfl rfl (by kernel_rfl) (fun _ _ _ h => h) (Or.inl ⟨by rfl, ?_⟩) hHeld ?_ ?_
    rotate_left
    · rintro w' ⟨s0, s1, s2⟩
      go_simp
      with_reducible rfl
    rotate_left
    · go_simp
      rfl
    refine pure_ (i := 7) (N := some 39) (v := ?_) (a' := ?_) #[true, true, true, true, true, true, true, true, false, false, false, false, false, false] rfl rfl (by kernel_rfl) (fun _ _ _ h => h) (Or.inl ⟨by rfl, ?_⟩) ?_ ?_
    rotate_left
    · intro w'
      go_simp
      with_reducible rfl
    rotate_left
    · go_simp
      rfl
    refine pure_ (i := 8) (N := some 40) (v := ?_) (a' := ?_) #[true, true, true, true, true, true, true, true, true, false, false, false, false, false] rfl rfl (by kernel_rfl) (fun _ _ _ h => h) (Or.inl ⟨by rfl, ?_⟩) ?_ ?_
    rotate_left
    · intro w'
      go_simp
      with_reducible rfl
    rotate_left
    · go_simp
      rfl
    refine pure_ (i := 9) (N := some 41) (v := ?_) (a' := ?_) #[true, true, true, true, true, true, true, true, true, true, false, false, false, false] rfl rfl (by kernel_rfl) (fun _ _ _ h => h) (Or.inl ⟨by rfl, ?_⟩) ?_ ?_
    rotate_left
    · intro w'
      go_simp
      with_reducible rfl
    rotate_left
    · go_simp
      rfl
    refine pure_ (i := 10) (N := some 42) (v := ?_) (a' := ?_) #[true, true, true, true, true, true, true, true, true, true, true, false, false, false] rfl rfl (by kernel_rfl) (fun _ _ _ h => h) (Or.inl ⟨by rfl, ?_⟩) ?_ ?_
    rotate_left
    · intro w'
      go_simp
      with_reducible rfl
    rotate_left
    · go_simp
      rfl
    refine take_ (i := 11) (N := some 43) (v := ?_) (a' := ?_) #[true, true, true, true, true, true, true, true, true, true, true, true, false, false] rfl rfl (by kernel_rfl) (fun _ _ _ h => h) (Or.inl ⟨by rfl, ?_⟩) hHeld ?_ ?_
    rotate_left
    · rintro w' ⟨s0, s1, s2⟩
      go_simp
      with_reducible rfl
    rotate_left
    · go_simp
      rfl
    refine pure_ (i := 12) (N := some 44) (v := ?_) (a' := ?_) #[true, true, true, true, true, true, true, true, true, true, true, true, true, false] rfl rfl (by kernel_rfl) (fun _ _ _ h => h) (Or.inl ⟨by rfl, ?_⟩) ?_ ?_
    rotate_left
    · intro w'
      go_simp
      with_reducible rfl
    rotate_left
    · go_simp
      rfl
    refine pure_ (i := 13) (N := some 45) (v := ?_) (a' := ?_) #[true, true, true, true, true, true, true, true, true, true, true, true, true, true] rfl rfl (by kernel_rfl) (fun _ _ _ h => h) (Or.inl ⟨by rfl, ?_⟩) ?_ ?_
    rotate_left
    · intro w'
      go_simp
      with_reducible rfl
    rotate_left
    · go_simp
      rfl
    refine done_ (by kernel_rfl) ?_
    clear h10 b1 p0 k5 k5' k7 k8 k9 k10
    generalize hbl : (Op.bytesLess c.f0.toList pr.f0.toList || c.f0.toList == pr.f0.toList) = bl
    have hbk : kle c.f0 pr.f0 = bl := hbl
    clear hbl
    rw [hbk] at HV4
    have HB3 : Hid (Below w.heap.size w wa.drew) := HB2.out.drew
    have HXd : Hid (wa.drew.heap[w.heap.size]? = some (.cells #[.int .i64 num, .slice (some ad) n cc] 24 (0, 0))) := HX2.out
    replace h11 : wa.drew.cell? ⟨wr.heap.size, 1, none⟩ = some (.slice A1 m c1) := h11
    clear HB2 HX2 HXc hbk
    generalize wa.drew = wd at *
    cases bl with
    | true =>
      have HR : Hid (chkS num l = 27) := Lib.hid (HV3.out.trans (if_pos HV4.out))
      go_wp2_with (fail)
      go_ret
      rw [HR.out]
      exact ⟨rfl, HB3⟩
    | false =>
      have HVK : Hid (chkS num l = _) := Lib.hid (HV3.out.trans (if_neg (by rw [HV4.out]; simp)))
      clear HV3 HV4
      by_cases h6 : 6 < m
      · have k6 : decide (6 < (m : Int)) = true := decide_eq_true (by omega)
        have HR : Hid (chkS num l = 27) := Lib.hid (by rw [HVK.out, if_pos (by rw [← Hm.out]; exact h6)])
        clear h6
        go_wp2_with (fail)
        go_ret
        rw [HR.out]
        exact ⟨rfl, HB3⟩
      have k6 : decide (6 < (m : Int)) = false := decide_eq_false (by omega)
      replace HVK : Hid (chkS num l = _) := Lib.hid (HVK.out.trans (if_neg (by rw [← Hm.out]; exact h6)))
      clear h6
      go_wp2_with (fail)
      generalize wr.heap.size = gc at *
      go_loopw [6, 7, 53] (fun v6 v7 v53 wr => ∃ j : Nat, j ≤ m ∧ v53 = .int .i64 j ∧ Hid (chkVals c.f1 = chkVals (c.f1.drop j)) ∧ Hid (Below w.heap.size w wr) ∧ Hid (wr.heap[w.heap.size]? = some (.cells #[.int .i64 num, .slice (some ad) n cc] 24 (0, 0)))) (fun _ _ v53 _ => m - (intOf v53).toNat)
      case atStart => exact ⟨0, Nat.zero_le _, rfl, rfl, HB3, HXd⟩
      case round =>
        clear HB3 k6 HXd
        obtain ⟨j, hj, rfl, HVV, HBi, HXi⟩ := hrel
        by_cases hjl : j < m
        rotate_left
        · obtain rfl : m = j := by omega
          have h0 : chkVals c.f1 = 0 := by rw [HVV.out, List.drop_eq_nil_of_le (by rw [← Hm.out]; exact Nat.le_refl _), chkVals]
          have HVN : Hid (chkS num l = chkCells (some c.f0) (l.drop (k + 1))) := Lib.hid (by rw [HVK.out, if_neg (by rw [h0]; simp)])
          clear h0
          go_wp2_with (fail)
          go_roundw
          case rel => exact ⟨k + 1, by omega, by go_num, by rw [HPK.out]; exact HVN, HBi, HXi⟩
          case measure => simp [intOf]; omega
        obtain ⟨ad3, A3, c3, hA3, e0, e1, e2, e3, hl3, hC3⟩ := at_T87 HCv.out (j : Int) (by omega) (by omega)
        subst hA3
        have hdr : c.f1.drop j = rd_T87 c.f1 (j : Int) :: c.f1.drop (j + 1) := by
          rw [List.drop_eq_getElem_cons (by rw [← Hm.out]; exact hjl)]
          unfold rd_T87
          rw [Int.toNat_natCast, List.getD_eq_getElem?_getD, List.getElem?_eq_getElem (by rw [← Hm.out]; exact hjl)]
          rfl
        have HDR := Lib.hid hdr
        clear hdr
        generalize rd_T87 c.f1 (j : Int) = y at *
        rw [Int.toNat_natCast] at e0 e1 e2 e3
        replace e0 := pw_cell_below HBi.out e0
        replace e1 := pw_cell_below HBi.out e1
        replace e2 := pw_cell_below HBi.out e2
        replace e3 := pw_cell_below HBi.out e3
        have HBa : Hid (Below w.heap.size w (wr.alloc (.cells #[.int .i64 y.f0, .int .i64 y.f1, .string y.f2, .slice A3 y.f3.length c3] 87))) := HBi.out.alloc HBi.out.size _
        have HX1 : Hid ((wr.alloc (.cells #[.int .i64 y.f0, .int .i64 y.f1, .string y.f2, .slice A3 y.f3.length c3] 87)).heap[w.heap.size]? = some (.cells #[.int .i64 num, .slice (some ad) n cc] 24 (0, 0))) := blk_alloc HXi.out _
        have HXa := Lib.hid (blk_new wr (.cells #[.int .i64 y.f0, .int .i64 y.f1, .string y.f2, .slice A3 y.f3.length c3] 87))
        have HY := Lib.hid (check50 y A3 c3 w (wr.alloc (.cells #[.int .i64 y.f0, .int .i64 y.f1, .string y.f2, .slice A3 y.f3.length c3] 87)) hC3 HBa.out)
        clear hC3 hl3
        go_upto_region 17 with (fail)
        clear e0 e1 e2 e3
        generalize wr.alloc (.cells #[.int .i64 y.f0, .int .i64 y.f1, .string y.f2, .slice A3 y.f3.length c3] 87) = wa at *
        have y0 : wa.cell? ⟨wr.heap.size, 0, none⟩ = some (.int .i64 y.f0) := blk_at HXa.out 0 rfl
        have y1 : wa.cell? ⟨wr.heap.size, 1, none⟩ = some (.int .i64 y.f1) := blk_at HXa.out 1 rfl
        have y2 : wa.cell? ⟨wr.heap.size, 2, none⟩ = some (.string y.f2) := blk_at HXa.out 2 rfl
        have y3 : wa.cell? ⟨wr.heap.size, 3, none⟩ = some (.slice A3 y.f3.length c3) := blk_at HXa.out 3 rfl
        go_wp2_with (go_at_call 50; refine HY.out.mono ?_; rintro e w2 ⟨rfl, hb2⟩
                     have HB2 : Hid (Below w.heap.size w w2) := Lib.hid (HBa.out.trans (hb2.out.mono HBa.out.size))
                     have HX2 : Hid (w2.heap[w.heap.size]? = some (.cells #[.int .i64 num, .slice (some ad) n cc] 24 (0, 0))) := blk_below HX1.out hb2.out
                     clear hb2 HY y0 y1 y2 y3
                     generalize hz : (chkV y 0 0).1 = z at *
                     have HZ := Lib.hid hz
                     clear hz
                     by_cases hz0 : z = 0)
        · have HVV2 : Hid (chkVals c.f1 = chkVals (c.f1.drop (j + 1))) := Lib.hid (by rw [HVV.out, HDR.out, chkVals, if_neg (by rw [HZ.out, hz0]; simp)])
          subst hz0
          go_wp2_with (fail)
          go_roundw
          case rel => exact ⟨j + 1, by omega, by go_num, HVV2, HB2, HX2⟩
          case measure => simp [intOf]; omega
        · have hcv : chkVals c.f1 = z := by rw [HVV.out, HDR.out, chkVals, if_pos (by rw [HZ.out]; exact hz0), HZ.out]
          have HR : Hid (chkS num l = z) := Lib.hid (by rw [HVK.out, if_pos (by rw [hcv]; exact hz0), hcv])
          have k1 : (z == 0) = false := beq_false_of_ne hz0
          have k2 : (z != 0) = true := by simp [hz0]
          clear hz0 hcv
          go_wp2_with (fail)
          go_ret
          rw [HR.out]
          exact ⟨rfl, HB2⟩
end Go.Proofs.Ytpplnhefpcofoaa.PDeltaJoin
