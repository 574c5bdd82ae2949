/- The document's Open. -/
import Derived.Test.YtcbaiplamaopeaaEE
import Derived.Test.YtcbaiplamaopeaaEA
namespace Go.Proofs.Ytcbaiplamaopeaa.PPostShots
open Go.RowKit Go.Conc Go.Proofs.YtcbaiplamaopeaaW.PrintWords Go.Proofs.YtcbaiplamaopeaaW.PrintLast Go.Proofs.Ytcbaiplamaopeaa.PPost
set_option linter.unusedVariables false
set_option linter.unusedSimpArgs false

/-- Is t among the first i? -/
def inR (ts : List Int) (t : Int) : Nat → Bool
  | 0 => false
  | i + 1 => inR ts t i || (ts.getD i 0 == t)
def leftR (ts : List Int) (kk : Nat) : Nat → List Int
  | 0 => []
  | k + 1 => if inR ts (k : Int) kk = true then leftR ts kk k else leftR ts kk k ++ [(k : Int)]
theorem leftR_len (ts : List Int) (kk : Nat) : ∀ k, (leftR ts kk k).length ≤ k
  | 0 => Nat.le_refl _
  | k + 1 => by
    have := leftR_len ts kk k
    unfold leftR
    split
    · omega
    · rw [List.length_append, List.length_singleton]; omega
def RA.open_ (R : RA) : Int × List Int := if R.now < 0 then (0, []) else (R.first + R.now, leftR R.ts R.pk R.n)
set_option maxRecDepth 100000 in
set_option maxHeartbeats 4000000 in
theorem open42_no (own : Nat → Nat) (w : World) (g tg : Nat) (R : RA) (A : Option Addr) (c : Nat) (rows : List SC) (pps : List PP) (h : RefAt own w g tg R A c rows pps) (hp : R.now = -1) : Calls Try.prog 42 #[.pointer (some ⟨g, 0, none⟩)] w fun e w' => e = .returned (.tuple #[.int .i64 0, .slice none 0 0]) ∧ w = w' := by
  have HP := now51 own w g tg R A c rows pps h
  rw [hp] at HP
  have HP := Lib.hid HP
  clear h hp
  go_enter Try.func42, Try.ntmps42
  go_wp2_with (go_at_call 51; refine HP.out.mono ?_; rintro e w1 ⟨rfl, rfl⟩)
  go_ret2
  exact ⟨rfl, rfl⟩
set_option maxRecDepth 100000 in
set_option maxHeartbeats 4000000 in
theorem open42_ok (own : Nat → Nat) (w : World) (g tg : Nat) (R : RA) (A : Option Addr) (c : Nat) (rows : List SC) (pps : List PP) (h : RefAt own w g tg R A c rows pps) (i : Nat) (hp : R.now = i) (hi : R.sts.length = i + 1) (h1 : R.sts.getD i 0 = 1) : Calls Try.prog 42 #[.pointer (some ⟨g, 0, none⟩)] w fun e w' => ∃ v, e = .returned (.tuple #[.int .i64 (R.first + i), v]) ∧ Hid ((Kd.int .i64).R 3 w' w.heap.size (fun _ => True) v (leftR R.ts R.pk R.n)) ∧ Hid (Below w.heap.size w w') := by
  have HP := now51 own w g tg R A c rows pps h
  rw [hp] at HP
  have HP := Lib.hid HP
  obtain ⟨gs, s, rfl, hs, hst, hid, hog⟩ := h.shot i (by omega)
  have hlt : i < rows.length := by rw [h.len]; omega
  obtain ⟨x0, x1, x2, x3, x4, xf⟩ := kS_at h.hr i hs
  have hL := h.hl s (last_at (by rw [h.len]; exact hi) hs)
  obtain ⟨n, hn⟩ : ∃ n, n = rows.length := ⟨_, rfl⟩
  have q3 : w.cell? ⟨g, 3, none⟩ = some (.slice (some ⟨gs, 0, none⟩) n c) := by rw [hn]; exact blk_at h.hb 3 rfl
  have hin : i < n := by rw [hn]; exact hlt
  obtain ⟨t, ht⟩ : ∃ t, t = R.n := ⟨_, rfl⟩
  have q0 : w.cell? ⟨g, 0, none⟩ = some (.int .i64 (t : Nat)) := by rw [ht]; exact blk_at h.hb 0 rfl
  have ht12 : t ≤ 12 := by rw [ht]; exact h.ok.n2
  have HC := Lib.hid (Kd.R_reads' hL.ht).2.2
  have hm := (Kd.R_reads' hL.ht).1
  have hpk : R.pk ≤ s.m := by rw [hm, h.ok.lt]; exact h.ok.lp
  have hm12 : s.m ≤ 12 := by rw [hm, h.ok.lt]; exact h.ok.lm
  rw [← hm] at HC
  rw [hL.hk] at x4
  rw [hst, h1] at x1
  rw [hid] at x0
  generalize s.m = m at *
  generalize s.e = e' at *
  generalize s.B = B at *
  generalize s.l = l2 at *
  generalize s.c = c2 at *
  generalize s.A = A2 at *
  generalize R.first + (i : Int) = id at *
  generalize R.ts = ts at *
  generalize R.pk = pk_ at *
  rw [← ht]
  have HPK := Lib.hid hpk
  clear h hp hs hst hid hog hlt hn hL hi h1 ht hm xf hpk
  go_enter Try.func42, Try.ntmps42
  go_upto_region 5 with (go_at_call 51; refine HP.out.mono ?_; rintro e w1 ⟨rfl, rfl⟩)
  have HX := Lib.hid (blk_new w (.cells #[.int .i64 id, .int .i64 1, .slice A2 l2 c2, .slice B m e', .int .i64 (pk_ : Nat)] 113))
  have HBx : Hid (Below w.heap.size w (w.alloc (.cells #[.int .i64 id, .int .i64 1, .slice A2 l2 c2, .slice B m e', .int .i64 (pk_ : Nat)] 113))) := Lib.hid ((Below.refl _ _).alloc (Nat.le_refl _) _)
  go_wp2_with (fail)
  generalize w.alloc (.cells #[.int .i64 id, .int .i64 1, .slice A2 l2 c2, .slice B m e', .int .i64 (pk_ : Nat)] 113) = wa at *
  have Hsa : Hid (w.heap.size + 1 ≤ wa.heap.size) := Lib.hid (blk_lt HX.out)
  clear x0 x1 x2 x3 x4 q3
  go_loopw [6, 7] (fun v6 v7 wr => ∃ k : Nat, k ≤ t ∧ v7 = .int .i64 k ∧ Hid ((Kd.int .i64).R 3 wr (w.heap.size + 1) (fun _ => True) v6 (leftR ts pk_ k)) ∧ Hid (Below w.heap.size w wr) ∧ Hid (wr.heap[w.heap.size]? = some (.cells #[.int .i64 id, .int .i64 1, .slice A2 l2 c2, .slice B m e', .int .i64 (pk_ : Nat)] 113 (0, 0)))) (fun _ v7 _ => t - (intOf v7).toNat)
  case atStart => exact ⟨0, Nat.zero_le _, rfl, Lib.hid (Kd.R_nil _ _ _ _ _), HBx, HX⟩
  case round =>
    obtain ⟨k, hk, rfl, HR, HB, HX2⟩ := hrel
    obtain ⟨Ao, co, hv⟩ := Kd.R_slice HR.out
    subst hv
    have a0 := pw_cell_below HB.out q0
    have b0 : wr.cell? ⟨w.heap.size, 0, none⟩ = some (.int .i64 id) := blk_at HX2.out 0 rfl
    have b1 : wr.cell? ⟨w.heap.size, 1, none⟩ = some (.int .i64 1) := blk_at HX2.out 1 rfl
    have b2 : wr.cell? ⟨w.heap.size, 2, none⟩ = some (.slice A2 l2 c2) := blk_at HX2.out 2 rfl
    have b3 : wr.cell? ⟨w.heap.size, 3, none⟩ = some (.slice B m e') := blk_at HX2.out 3 rfl
    have b4 : wr.cell? ⟨w.heap.size, 4, none⟩ = some (.int .i64 (pk_ : Nat)) := blk_at HX2.out 4 rfl
    have HCr := Lib.hid (Kd.C_below HC.out HB.out)
    by_cases hlt : k < t
    · have hl2 : leftR ts pk_ (k + 1) = if inR ts (k : Int) pk_ = true then leftR ts pk_ k else leftR ts pk_ k ++ [(k : Int)] := rfl
      have HL2 := Lib.hid hl2
      have HLL := Lib.hid (leftR_len ts pk_ k)
      clear hl2
      go_wp2_with (fail)
      go_loopw [8, 9] (fun v8 v9 wq => ∃ j : Nat, j ≤ pk_ ∧ v9 = .int .i64 j ∧ v8 = .bool (inR ts (k : Int) j) ∧ wq = wr) (fun _ v9 _ => pk_ - (intOf v9).toNat)
      case atStart => exact ⟨0, Nat.zero_le _, rfl, rfl, rfl⟩
      case round =>
        obtain ⟨j, hj, rfl, rfl, rfl⟩ := hrel
        have hpk := HPK.out
        by_cases hjl : j < pk_
        · obtain ⟨ad, rfl, y0⟩ := at_Int HCr.out j (by omega)
          have hin2 : inR ts (k : Int) (j + 1) = (inR ts (k : Int) j || (ts.getD j 0 == (k : Int))) := rfl
          have HI := Lib.hid hin2
          clear hin2
          generalize ts.getD j 0 = y at *
          by_cases hb1 : inR ts (k : Int) j = true
          · have HI2 : Hid (inR ts (k : Int) (j + 1) = true) := Lib.hid (by rw [HI.out, hb1]; rfl)
            rw [hb1]
            go_wp2_with (fail)
            go_roundw
            case rel => exact ⟨j + 1, by omega, by go_num, by rw [HI2.out], trivial⟩
            case measure => simp [intOf]; omega
          · have hb2 : inR ts (k : Int) j = false := by simpa using hb1
            have HI2 : Hid (inR ts (k : Int) (j + 1) = (y == (k : Int))) := Lib.hid (by rw [HI.out, hb2]; rfl)
            rw [hb2]
            clear hb1 hb2
            cases hbb : (y == (k : Int))
            all_goals
              rw [hbb] at HI2
              go_wp2_with (fail)
              go_roundw
              case rel => exact ⟨j + 1, by omega, by go_num, by rw [HI2.out], trivial⟩
              case measure => simp [intOf]; omega
        · obtain rfl : j = pk_ := by omega
          by_cases hb1 : inR ts (k : Int) j = true
          · have HL3 : Hid (leftR ts j (k + 1) = leftR ts j k) := Lib.hid (by rw [HL2.out, if_pos hb1])
            rw [hb1]
            go_wp2_with (fail)
            go_roundw
            case rel => exact ⟨k + 1, by omega, by go_num, by rw [HL3.out]; exact HR, HB, HX2⟩
            case measure => simp [intOf]; omega
          · have hb2 : inR ts (k : Int) j = false := by simpa using hb1
            have HL3 : Hid (leftR ts j (k + 1) = leftR ts j k ++ [(k : Int)]) := Lib.hid (by rw [HL2.out, if_neg hb1])
            rw [hb2]
            clear hb1 hb2
            go_wp2_with (at_builtin; refine Kd.R_append (Kd.int .i64) (w0 := wr) (w.heap.size + 1) rfl (.tmp 47) (.tmp 49) 23 3 (.int .i64 0) 8 rfl Try.underlying23 info3 rfl (show 0 < 1 by decide) (by decide) (.slice Ao (leftR ts j k).length co) (leftR ts j k) (k : Int) _ (fun _ => True) (fun k_ => True ∧ some k_ ≠ (Value.slice Ao (leftR ts j k).length co).ownBlock) rfl rfl ?hp (fun _ hk => hk) (fun _ _ => trivial) HR.out (Below.refl _ _) ?hS ?hl ?_
                         case hp => rfl
                         case hS => exact blk_lt HX2.out
                         case hl => have := HLL.out; omega
                         intro v1 w4 O4 B4 hg4 hat4
                         have HR4 := Lib.hid O4
                         have HB4 := Lib.hid B4
                         clear O4 B4 hg4 hat4)
            go_roundw
            case rel => exact ⟨k + 1, by omega, by go_num, by rw [HL3.out]; exact HR4, Lib.hid (HB.out.trans (HB4.out.mono (Nat.le_trans (Nat.le_succ _) (Nat.le_refl _)))), Lib.hid ((HB4.out.block _ (Nat.lt_succ_self _)).trans HX2.out)⟩
            case measure => simp [intOf]; omega
    · obtain rfl : k = t := by omega
      go_wp2_with (fail)
      go_ret2
      exact ⟨_, rfl, Lib.hid (Kd.R_lower HR.out (Nat.le_succ _)), HB⟩
theorem open42 (own : Nat → Nat) (w : World) (g tg : Nat) (R : RA) (A : Option Addr) (c : Nat) (rows : List SC) (pps : List PP) (h : RefAt own w g tg R A c rows pps) : Calls Try.prog 42 #[.pointer (some ⟨g, 0, none⟩)] w fun e w' => ∃ v, e = .returned (.tuple #[.int .i64 R.open_.1, v]) ∧ Hid ((Kd.int .i64).R 3 w' w.heap.size (fun _ => True) v R.open_.2) ∧ Hid (Below w.heap.size w w') := by
  unfold RA.open_
  rcases R.now_cases with hp | ⟨k, hp, hk, h1⟩
  · rw [hp, if_pos (by decide)]
    refine (open42_no own w g tg R A c rows pps h hp).mono ?_
    rintro e w' ⟨rfl, rfl⟩
    exact ⟨_, rfl, Lib.hid (Kd.R_nil _ _ _ _ _), Lib.hid (Below.refl _ _)⟩
  · rw [hp, if_neg (by omega)]
    exact open42_ok own w g tg R A c rows pps h k hp hk h1
end Go.Proofs.Ytcbaiplamaopeaa.PPostShots
