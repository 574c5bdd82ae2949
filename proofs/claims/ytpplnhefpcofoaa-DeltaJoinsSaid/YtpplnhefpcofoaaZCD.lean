/- delta.Check. -/
import Derived.Test.YtpplnhefpcofoaaZCB
import Derived.Test.YtpplnhefpcofoaaZIU
import Derived.Test.YtpplnhefpcofoaaZMS
namespace Go.Proofs.Ytpplnhefpcofoaa.PDeltaJoin
open Go.RowKit Go.Proofs.YtpplnhefpcofoaaW.PrintWords Go.Proofs.YtpplnhefpcofoaaW.PrintLast
set_option linter.unusedVariables false
set_option linter.unusedSimpArgs false

/-- The map of these cells' keys. -/
def fS (l : List S63) (k : ByteArray) : Int := if (l.any fun c => decide (c.f0 = k)) = true then 1 else 0
def fG (l : List ByteArray) (k : ByteArray) : Int := if (l.any fun c => decide (c = k)) = true then 1 else 0
def chkGone (f : ByteArray → Int) (p : Option ByteArray) : List ByteArray → Int
  | [] => 0
  | k :: ks => if 12 < k.size then 24 else if notAbove p k = true ∨ f k = 1 then 112 else chkGone f (some k) ks
/-- What delta.Check tells. -/
def chkD (num : Int) (set : List S63) (gone : List ByteArray) : Int := if chkS num set ≠ 0 then chkS num set else if 64 < gone.length then 111 else chkGone (fS set) none gone
def prevS (l : List ByteArray) (k : Nat) : Option ByteArray := if k = 0 then none else some (l.getD (k - 1) ⟨#[]⟩)
theorem chkCells_keys : ∀ (l : List S63) (p : Option ByteArray), chkCells p l = 0 → ∀ c ∈ l, c.f0.size ≤ 12
  | [], _, _, c, hc => by cases hc
  | d :: ds, p, h, c, hc => by
    rw [chkCells_cons] at h
    split at h
    · simp at h
    · rename_i h1
      split at h
      · simp at h
      · split at h
        · simp at h
        · split at h
          · rename_i h4; exact absurd h h4
          · rcases List.mem_cons.1 hc with rfl | hc
            · omega
            · exact chkCells_keys ds _ h c hc
theorem chkS_ok {num : Int} {l : List S63} (h : chkS num l = 0) : l.length ≤ 64 ∧ chkCells none l = 0 ∧ 0 ≤ num ∧ num ≤ 1073741824 := by
  unfold chkS at h
  split at h
  · simp at h
  · split at h
    · simp at h
    · exact ⟨by omega, h, by omega, by omega⟩
theorem fS_step (l : List S63) (k : Nat) (h : k < l.length) : (fun y => if y = (l.getD k z63).f0 then 1 else fS (l.take k) y) = fS (l.take (k + 1)) := by
  funext y
  unfold fS
  rw [take_getD l z63 k h, List.any_append, List.any_cons, List.any_nil]
  by_cases hy : y = (l.getD k z63).f0
  · rw [if_pos hy, decide_eq_true hy.symm]; simp
  · rw [if_neg hy, decide_eq_false (fun e => hy e.symm), show (false || false) = false from rfl, Bool.or_false]
theorem small_max {s : ByteArray} (h : s.size ≤ 12) : s.size ≤ maxLen := Nat.le_trans h (by decide)
theorem wf1 : (Lit.int .i64 1).wf = true := by decide
set_option maxRecDepth 100000 in
set_option maxHeartbeats 16000000 in
theorem check14 (num : Int) (set : List S63) (gone : List ByteArray) (A B : Option Addr) (ca cb : Nat) (w : World) (hA : Kd.C k63 w A set.length set) (hB : Kd.C Kd.string w B gone.length gone) :
    Calls Try.prog 14 #[.agg #[.int .i64 num, .slice A set.length ca, .slice B gone.length cb]] w fun e w' => e = .returned (.int .i64 (chkD num set gone)) ∧ Hid (Below w.heap.size w w') := by
  obtain ⟨n, hn⟩ : ∃ n, n = set.length := ⟨_, rfl⟩
  obtain ⟨m, hm⟩ : ∃ m, m = gone.length := ⟨_, rfl⟩
  have HA := Lib.hid hA
  have HB := Lib.hid hB
  have Hn := Lib.hid hn
  have Hm := Lib.hid hm
  have hnm : n ≤ 9223372036854775807 := by rw [hn]; exact Kd.C_max hA
  have hmm : m ≤ 9223372036854775807 := by rw [hm]; exact Kd.C_max hB
  rw [← hn, ← hm]
  have HX := Lib.hid (blk_new w (.cells #[.int .i64 num, .slice A n ca, .slice B m cb] 27))
  have HW0 : Hid (Below w.heap.size w (w.alloc (.cells #[.int .i64 num, .slice A n ca, .slice B m cb] 27))) := (Below.refl _ _).alloc (Nat.le_refl _) _
  have HY : Hid (Calls Try.prog 34 #[.agg #[.int .i64 num, .slice A n ca]] (w.alloc (.cells #[.int .i64 num, .slice A n ca, .slice B m cb] 27)) _) := Lib.hid (by
    have := checkState34 num set A ca (w.alloc (.cells #[.int .i64 num, .slice A n ca, .slice B m cb] 27)) (Kd.C_below hA HW0.out)
    rw [← hn] at this
    exact this)
  clear hA hB hn hm
  have b0 : (w.alloc (.cells #[.int .i64 num, .slice A n ca, .slice B m cb] 27)).cell? ⟨w.heap.size, 0, none⟩ = some (.int .i64 num) := blk_at HX.out 0 rfl
  have b1 : (w.alloc (.cells #[.int .i64 num, .slice A n ca, .slice B m cb] 27)).cell? ⟨w.heap.size, 1, none⟩ = some (.slice A n ca) := blk_at HX.out 1 rfl
  have b2 : (w.alloc (.cells #[.int .i64 num, .slice A n ca, .slice B m cb] 27)).cell? ⟨w.heap.size, 2, none⟩ = some (.slice B m cb) := blk_at HX.out 2 rfl
  have HCD : Hid (chkD num set gone = _) := Lib.hid rfl
  unfold chkD at HCD
  generalize hz : chkS num set = z at *
  have HZ := Lib.hid hz
  clear hz
  by_cases hz0 : z = 0
  rotate_left
  · have HR : Hid (chkD num set gone = z) := Lib.hid (by unfold chkD; rw [HZ.out, if_pos hz0])
    have k1 : (z == 0) = false := beq_false_of_ne hz0
    have k2 : (z != 0) = true := by simp [hz0]
    clear hz0
    go_enter Try.func14, Try.ntmps14
    go_wp2_with (go_at_call 34; refine HY.out.mono ?_; rintro e w1 ⟨rfl, hb1⟩
                 have HW1 : Hid (Below w.heap.size w w1) := HW0.out.trans (hb1.out.mono HW0.out.size)
                 clear hb1)
    go_ret
    rw [HR.out]
    exact ⟨rfl, HW1⟩
  subst hz0
  clear HCD
  have HR0 : Hid (chkD num set gone = if 64 < gone.length then 111 else chkGone (fS set) none gone) := Lib.hid (by unfold chkD; rw [if_neg (by rw [HZ.out]; simp)])
  have HK := Lib.hid (chkCells_keys set none (chkS_ok HZ.out).2.1)
  have hn64 : n ≤ 64 := by have := (chkS_ok HZ.out).1; rw [← Hn.out] at this; exact this
  go_enter Try.func14, Try.ntmps14
  go_upto_region 4 with (go_at_call 34; refine HY.out.mono ?_; rintro e w1 ⟨rfl, hb1⟩
                         have HW1 : Hid (Below w.heap.size w w1) := HW0.out.trans (hb1.out.mono HW0.out.size)
                         have HX1 := Lib.hid (blk_below HX.out hb1.out)
                         clear hb1)
  clear b0 b1 b2 HW0 HX HY
  have b0 : w1.cell? ⟨w.heap.size, 0, none⟩ = some (.int .i64 num) := blk_at HX1.out 0 rfl
  have b1 : w1.cell? ⟨w.heap.size, 1, none⟩ = some (.slice A n ca) := blk_at HX1.out 1 rfl
  have b2 : w1.cell? ⟨w.heap.size, 2, none⟩ = some (.slice B m cb) := blk_at HX1.out 2 rfl
  by_cases h3 : 64 < m
  · have k3 : decide (64 < (m : Int)) = true := decide_eq_true (by omega)
    have HR : Hid (chkD num set gone = 111) := Lib.hid (HR0.out.trans (if_pos (by rw [← Hm.out]; exact h3)))
    clear h3
    go_wp2_with (fail)
    go_ret
    rw [HR.out]
    exact ⟨rfl, HW1⟩
  have k3 : decide (64 < (m : Int)) = false := decide_eq_false (by omega)
  replace HR0 : Hid (chkD num set gone = chkGone (fS set) none gone) := Lib.hid (HR0.out.trans (if_neg (by rw [← Hm.out]; exact h3)))
  clear h3
  have hmk := run_makeMap (P := Try.prog) (w := w1) 65
  have qlt : w.heap.size < w1.heap.size := blk_lt HX1.out
  have HM0 : Hid (MapS Try.prog 9 3 (w1.alloc (.map #[] 0)) w1.heap.size 0 (fS (set.take 0))) := by
    have e : fS (set.take 0) = fun _ => 0 := by funext y; rfl
    rw [e]
    exact MapS.made _ _ _ _
  have HW2 : Hid (Below w.heap.size w (w1.alloc (.map #[] 0))) := HW1.out.alloc HW1.out.size _
  have HX2 := Lib.hid (blk_alloc HX1.out (.map #[] 0))
  go_wp2_with (fail)
  clear hmk b0 b1 b2 qlt k3
  generalize hmb : w1.heap.size = mb at *
  have HMB : Hid (w.heap.size < mb) := Lib.hid (by rw [← hmb]; exact blk_lt HX1.out)
  clear hmb HW1 HX1
  generalize w1.alloc (.map #[] 0) = w2 at *
  go_loopw [6, 26] (fun v6 v26 wr => ∃ k : Nat, k ≤ n ∧ v26 = .int .i64 k ∧ Hid (MapS Try.prog 9 3 wr mb k (fS (set.take k))) ∧ Hid (Below w.heap.size w wr) ∧ Hid (wr.heap[w.heap.size]? = some (.cells #[.int .i64 num, .slice A n ca, .slice B m cb] 27 (0, 0)))) (fun _ v26 _ => n - (intOf v26).toNat)
  case atStart => exact ⟨0, Nat.zero_le _, rfl, HM0, HW2, HX2⟩
  case round =>
    clear HM0 HW2 HX2
    obtain ⟨k, hk, rfl, HM, HW, HX⟩ := hrel
    by_cases hlt : k < n
    · obtain ⟨ad, A1, c1, hA1, e0, e1, hl1, hC1⟩ := at_T63 HA.out (k : Int) (by omega) (by rw [← Hn.out]; omega)
      subst hA1
      have hmem : rd_T63 set (k : Int) ∈ set := getD_mem _ _ _ (by rw [Int.toNat_natCast, ← Hn.out]; exact hlt)
      have hst := fS_step set k (by rw [← Hn.out]; exact hlt)
      have hcd : set.getD k z63 = rd_T63 set (k : Int) := by unfold rd_T63; rw [Int.toNat_natCast]
      rw [hcd] at hst
      have hc12 := HK.out _ hmem
      clear hcd hmem
      generalize rd_T63 set (k : Int) = c at *
      generalize c.f1.length = lc at *
      rw [Int.toNat_natCast] at e0 e1
      replace e0 := pw_cell_below HW.out e0
      replace e1 := pw_cell_below HW.out e1
      have HWa : Hid (Below w.heap.size w (wr.alloc (.cells #[.string c.f0, .slice A1 lc c1] 63))) := HW.out.alloc HW.out.size _
      have HXa := Lib.hid (blk_alloc HX.out (.cells #[.string c.f0, .slice A1 lc c1] 63))
      have HXc := Lib.hid (blk_new wr (.cells #[.string c.f0, .slice A1 lc c1] 63))
      have hma : MapS Try.prog 9 3 (wr.alloc (.cells #[.string c.f0, .slice A1 lc c1] 63)) mb k (fS (set.take k)) := HM.out.move (Below.heap_alloc _ _ _ HM.out.lt)
      obtain ⟨w', hrun, hm', hg'⟩ := hma.set (t := 65) Try.underlying65 Try.underlying9 Try.underlying3 (Nat.lt_of_lt_of_le hlt (Nat.le_trans hn64 (by decide))) c.f0 1 (small_max hc12) wf1
      rw [hst] at hm'
      have HM' := Lib.hid hm'
      have HW' : Hid (Below w.heap.size w w') := Lib.hid (below_grown HWa.out hg' (Nat.le_of_lt HMB.out))
      have HX' := Lib.hid (blk_grown HXa.out hg' (by have := HMB.out; intro e; injection e with e; omega))
      clear hst hma hm' hg' hl1 hC1
      go_upto_region 10 with (fail)
      clear e0 e1
      generalize wr.alloc (.cells #[.string c.f0, .slice A1 lc c1] 63) = wa at *
      have h10 : wa.cell? ⟨wr.heap.size, 0, none⟩ = some (.string c.f0) := blk_at HXc.out 0 rfl
      go_wp2_with (fail)
      clear hrun h10
      go_roundw
      case rel => exact ⟨k + 1, by omega, by go_num, HM', HW', HX'⟩
      case measure => simp [intOf]; omega
    obtain rfl : n = k := by omega
    have HMf : Hid (MapS Try.prog 9 3 wr mb n (fS set)) := by
      rw [List.take_of_length_le (by rw [← Hn.out]; exact Nat.le_refl _)] at HM
      exact HM
    clear HM hlt hk
    have b0 : wr.cell? ⟨w.heap.size, 0, none⟩ = some (.int .i64 num) := blk_at HX.out 0 rfl
    have b1 : wr.cell? ⟨w.heap.size, 1, none⟩ = some (.slice A n ca) := blk_at HX.out 1 rfl
    have b2 : wr.cell? ⟨w.heap.size, 2, none⟩ = some (.slice B m cb) := blk_at HX.out 2 rfl
    have HM2 := HMf
    have HW2 := HW
    have HX2 := HX
    clear HMf HW HX
    go_wp2_with (fail)
    clear b0 b1 b2
    generalize wr.heap.size = dummy at *
    go_loopw [7, 8, 37] (fun v7 v8 v37 wr => ∃ k : Nat, k ≤ m ∧ v37 = .int .i64 k ∧ Hid (chkD num set gone = chkGone (fS set) (prevS gone k) (gone.drop k)) ∧ Hid (MapS Try.prog 9 3 wr mb n (fS set)) ∧ Hid (Below w.heap.size w wr) ∧ Hid (wr.heap[w.heap.size]? = some (.cells #[.int .i64 num, .slice A n ca, .slice B m cb] 27 (0, 0)))) (fun _ _ v37 _ => m - (intOf v37).toNat)
    case atStart => exact ⟨0, Nat.zero_le _, rfl, HR0, HM2, HW2, HX2⟩
    case round =>
      clear HM2 HW2 HX2 HR0
      obtain ⟨k, hk, rfl, HR, HM, HW, HX⟩ := hrel
      by_cases hlt : k < m
      rotate_left
      · obtain rfl : m = k := by omega
        have HR1 : Hid (chkD num set gone = 0) := Lib.hid (by rw [HR.out, List.drop_eq_nil_of_le (by rw [← Hm.out]; exact Nat.le_refl _), chkGone])
        go_wp2_with (fail)
        go_ret
        rw [HR1.out]
        exact ⟨rfl, HW⟩
      obtain ⟨ad, hB1, g0⟩ := at_str HB.out k (by rw [← Hm.out]; exact hlt)
      subst hB1
      have hdr : gone.drop k = gone.getD k ⟨#[]⟩ :: gone.drop (k + 1) := drop_getD_S _ _ (by rw [← Hm.out]; exact hlt)
      have hpk : prevS gone (k + 1) = some (gone.getD k ⟨#[]⟩) := by unfold prevS; rw [if_neg (by omega)]; rfl
      generalize gone.getD k ⟨#[]⟩ = key at *
      have HPK := Lib.hid hpk
      replace HR : Hid (chkD num set gone = _) := Lib.hid (by rw [HR.out, hdr, chkGone])
      clear hpk hdr
      replace g0 := pw_cell_below HW.out g0
      have b2 : wr.cell? ⟨w.heap.size, 2, none⟩ = some (.slice (some ad) m cb) := blk_at HX.out 2 rfl
      have i0 : (0 : Int) ≤ (k : Int) := by omega
      have i1 : (k : Int) < (m : Int) := by omega
      by_cases h12 : 12 < key.size
      · have k4 : decide (12 < (key.size : Int)) = true := decide_eq_true (by omega)
        have HR1 : Hid (chkD num set gone = 24) := Lib.hid (HR.out.trans (if_pos h12))
        clear h12
        go_wp2_with (fail)
        go_ret
        rw [HR1.out]
        exact ⟨rfl, HW⟩
      have k4 : decide (12 < (key.size : Int)) = false := decide_eq_false (by omega)
      replace HR : Hid (chkD num set gone = _) := Lib.hid (HR.out.trans (if_neg h12))
      have hlook := HM.out.look (t := 65) Try.underlying65 Try.underlying9 Try.underlying3 (Try.zeroValue3 wr) key (small_max (by omega))
      clear h12
      by_cases hk0 : k = 0
      · have k5 : decide (0 < (k : Int)) = false := decide_eq_false (by omega)
        have k5' : decide (0 < k) = false := decide_eq_false (by omega)
        have HNA : Hid (notAbove (prevS gone k) key = false) := Lib.hid (by rw [hk0]; rfl)
        clear hk0
        by_cases hf : fS set key = 1
        · have HR1 : Hid (chkD num set gone = 112) := Lib.hid (HR.out.trans (if_pos (.inr hf)))
          rw [hf] at hlook
          clear hf
          go_wp2_with (fail)
          go_ret
          rw [HR1.out]
          exact ⟨rfl, HW⟩
        have HR1 : Hid (chkD num set gone = chkGone (fS set) (prevS gone (k + 1)) (gone.drop (k + 1))) := Lib.hid (by rw [HR.out, if_neg (by rw [HNA.out]; simp [hf]), HPK.out])
        generalize fS set key = z at *
        have kz : (z == 1) = false := beq_false_of_ne hf
        clear hf
        go_wp2_with (fail)
        go_roundw
        case rel => exact ⟨k + 1, by omega, by go_num, HR1, HM, HW, HX⟩
        case measure => simp [intOf]; omega
      obtain ⟨kk, hkk⟩ : ∃ kk, k = kk + 1 := ⟨k - 1, by omega⟩
      obtain ⟨ad', hB2, p0⟩ := at_str HB.out kk (by rw [← Hm.out]; omega)
      cases hB2
      have hpv : notAbove (prevS gone k) key = kle key (gone.getD kk ⟨#[]⟩) := by rw [hkk]; unfold prevS; rw [if_neg (by omega)]; rfl
      generalize gone.getD kk ⟨#[]⟩ = pr at *
      replace p0 := pw_cell_below HW.out p0
      have HNA0 := Lib.hid hpv
      have k5 : (0 : Int) < (k : Int) := by omega
      have k5' : 0 < k := by omega
      have k7 : IntKind.i64.wrap (kk : Int) = (kk : Int) := IntWalk.i64_in _ (by omega)
      have k8 : (0 : Int) ≤ (kk : Int) := by omega
      have k9 : (kk : Int) < (m : Int) := by omega
      have k10 : (k : Int) - 1 = (kk : Int) := by omega
      clear hk0 hkk hpv
      go_upto_if 46 with (fail)
      clear k5 k5' k7 k8 k9 k10 p0 b2
      generalize hbl : (Op.bytesLess key.toList pr.toList || key.toList == pr.toList) = bl
      have hbk : kle key pr = bl := hbl
      clear hbl
      rw [hbk] at HNA0
      clear hbk
      cases bl with
      | true =>
        have HR1 : Hid (chkD num set gone = 112) := Lib.hid (HR.out.trans (if_pos (.inl HNA0.out)))
        clear hlook
        go_wp2_with (fail)
        go_ret
        rw [HR1.out]
        exact ⟨rfl, HW⟩
      | false =>
        have HNA := HNA0
        clear HNA0
        by_cases hf : fS set key = 1
        · have HR1 : Hid (chkD num set gone = 112) := Lib.hid (HR.out.trans (if_pos (.inr hf)))
          rw [hf] at hlook
          clear hf
          go_wp2_with (fail)
          go_ret
          rw [HR1.out]
          exact ⟨rfl, HW⟩
        have HR1 : Hid (chkD num set gone = chkGone (fS set) (prevS gone (k + 1)) (gone.drop (k + 1))) := Lib.hid (by rw [HR.out, if_neg (by rw [HNA.out]; simp [hf]), HPK.out])
        generalize fS set key = z at *
        have kz : (z == 1) = false := beq_false_of_ne hf
        clear hf
        go_wp2_with (fail)
        go_roundw
        case rel => exact ⟨k + 1, by omega, by go_num, HR1, HM, HW, HX⟩
        case measure => simp [intOf]; omega
end Go.Proofs.Ytpplnhefpcofoaa.PDeltaJoin
