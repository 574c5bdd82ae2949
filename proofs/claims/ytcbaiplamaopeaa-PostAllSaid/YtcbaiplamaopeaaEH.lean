/- The document's Hand takes a part. -/
import Derived.Test.YtcbaiplamaopeaaEG
namespace Go.Proofs.Ytcbaiplamaopeaa.PPostShots
open Go.RowKit Go.Conc Go.Proofs.YtcbaiplamaopeaaW.PrintWords Go.Proofs.YtcbaiplamaopeaaW.PrintLast Go.Proofs.Ytcbaiplamaopeaa.PPost
set_option linter.unusedVariables false
set_option linter.unusedSimpArgs false

set_option maxRecDepth 100000 in
set_option maxHeartbeats 4000000 in
theorem hand36_ok (own : Nat → Nat) (w : World) (g tg : Nat) (R : RA) (A : Option Addr) (c : Nat) (rows : List SC) (pps : List PP) (h : RefAt own w g tg R A c rows pps) (i : Nat) (task : Int) (x : S40) (A1 : Option Addr) (c1 : Nat) (A2 : Option Addr) (c2 : Nat) (A3 : Option Addr) (c3 : Nat) (h1 : ¬ task < 0) (h2 : ¬ (R.n : Int) ≤ task) (hn : R.now = i) (hi : R.sts.length = i + 1) (hu : R.sts.getD i 0 = 1) (hin0 : inTs R.ts task = false) (hroom : R.ps.length < 12) (hC1 : Kd.C k103 w A1 x.f0.f1.length x.f0.f1) (hC2 : Kd.C (Kd.slice 83 k83) w A2 x.f1.length x.f1) (hC3 : Kd.C k83 w A3 x.f2.length x.f2) (hp : partsP x ≤ 100000) :
    Calls Try.prog 36 #[.pointer (some ⟨g, 0, none⟩), .int .i64 (R.first + i), .int .i64 task, .agg #[.int .i64 x.f0.f0, .slice A1 x.f0.f1.length c1, .slice A2 x.f1.length c2, .slice A3 x.f2.length c3]] w fun e w' => e = .returned (.int .i64 0) ∧ RefTo own w g tg ⟨R.n, R.first, R.sum, R.sts, R.ps ++ [x], R.ts ++ [task], R.pk⟩ w' := by
  have HP := now51 own (w.alloc (.cells #[.int .i64 x.f0.f0, .slice A1 x.f0.f1.length c1, .slice A2 x.f1.length c2, .slice A3 x.f2.length c3] 40)) g tg R A c rows pps (h.upd (T := fun _ => False) (fun h => h) (fun _ _ _ h => h) (Upd.box _))
  rw [hn] at HP
  have HP := Lib.hid HP
  obtain ⟨gs, s, rfl, hs, hst, hid, hog⟩ := h.shot i (by omega)
  have hlt : i < rows.length := by rw [h.len]; omega
  have h0 := h.upd (T := fun _ => False) (fun h => h) (fun _ _ _ h => h) (Upd.box (w := w) (.cells #[.int .i64 x.f0.f0, .slice A1 x.f0.f1.length c1, .slice A2 x.f1.length c2, .slice A3 x.f2.length c3] 40))
  obtain ⟨x0, x1, x2, x3, x4, xf⟩ := kS_at h0.hr i hs
  obtain ⟨n, hnl⟩ : ∃ n, n = rows.length := ⟨_, rfl⟩
  have q3 : (w.alloc (.cells #[.int .i64 x.f0.f0, .slice A1 x.f0.f1.length c1, .slice A2 x.f1.length c2, .slice A3 x.f2.length c3] 40)).cell? ⟨g, 3, none⟩ = some (.slice (some ⟨gs, 0, none⟩) n c) := by rw [hnl]; exact blk_at h0.hb 3 rfl
  have hin : i < n := by rw [hnl]; exact hlt
  obtain ⟨t, ht⟩ : ∃ t, t = R.n := ⟨_, rfl⟩
  have q0 : (w.alloc (.cells #[.int .i64 x.f0.f0, .slice A1 x.f0.f1.length c1, .slice A2 x.f1.length c2, .slice A3 x.f2.length c3] 40)).cell? ⟨g, 0, none⟩ = some (.int .i64 (t : Nat)) := by rw [ht]; exact blk_at (blk_alloc h.hb _) 0 rfl
  have k1 : decide (task < 0) = false := decide_eq_false h1
  have k2 : decide ((t : Int) ≤ task) = false := decide_eq_false (by rw [ht]; exact h2)
  have hL := h0.hl s (last_at (by rw [h.len]; exact hi) hs)
  have HCt := Lib.hid (Kd.R_reads' hL.ht).2.2
  have hm := (Kd.R_reads' hL.ht).1
  have hm12 : s.m ≤ 12 := by rw [hm, h.ok.lt]; exact h.ok.lm
  have hm' := hm
  rw [← hm] at HCt
  have hpk4 := hL.hk
  rw [hpk4] at x4
  rw [hst, hu] at x1
  rw [hid] at x0
  unfold inTs at hin0
  rw [← hm'] at hin0
  have HID := Lib.hid hid
  have HST := Lib.hid (hst.trans hu)
  have HH := Lib.hid h
  have HS := Lib.hid hs
  have HNL := Lib.hid hnl
  have HOG := Lib.hid hog
  have HRM := Lib.hid hroom
  have HPKE := Lib.hid hpk4
  have H0 : Hid (¬ (fun t_ => t_ = tg + 4 ∨ t_ = tg + 2 ∨ t_ = tg + 3) 0) := Lib.hid (by show ¬ (0 = tg + 4 ∨ 0 = tg + 2 ∨ 0 = tg + 3); omega)
  have HIL := Lib.hid ((h.len).trans hi)
  have HM := Lib.hid hm'
  have HLP := Lib.hid (Kd.R_reads' hL.hp).1
  have HEP : Hid (pps.length = R.ps.length) := Lib.hid (by rw [← h.ep, List.length_map])
  have HSA : Hid (s = ⟨s.id, s.st, s.A, s.l, s.c, s.B, s.m, s.e, s.pk⟩) := Lib.hid rfl
  generalize s.m = m at *
  generalize s.e = e' at *
  generalize s.B = B at *
  generalize s.l = lp at *
  generalize s.c = cp at *
  generalize s.A = Ap at *
  generalize hidv : R.first + (i : Int) = id at *
  have HIV := Lib.hid hidv
  clear hidv
  have HIN := Lib.hid hin0
  have HBW : Hid (Below w.heap.size w ((w.alloc (.cells #[.int .i64 x.f0.f0, .slice A1 x.f0.f1.length c1, .slice A2 x.f1.length c2, .slice A3 x.f2.length c3] 40)).alloc (.cells #[.int .i64 id, .int .i64 1, .slice Ap lp cp, .slice B m e', .int .i64 (R.pk : Nat)] 113))) := Lib.hid (((Below.refl _ _).alloc (Nat.le_refl _) _).alloc (by simp) _)
  have HSZ : Hid (w.heap.size + 1 < ((w.alloc (.cells #[.int .i64 x.f0.f0, .slice A1 x.f0.f1.length c1, .slice A2 x.f1.length c2, .slice A3 x.f2.length c3] 40)).alloc (.cells #[.int .i64 id, .int .i64 1, .slice Ap lp cp, .slice B m e', .int .i64 (R.pk : Nat)] 113)).heap.size) := Lib.hid (by simp)
  have HX0 : Hid (((w.alloc (.cells #[.int .i64 x.f0.f0, .slice A1 x.f0.f1.length c1, .slice A2 x.f1.length c2, .slice A3 x.f2.length c3] 40)).alloc (.cells #[.int .i64 id, .int .i64 1, .slice Ap lp cp, .slice B m e', .int .i64 (R.pk : Nat)] 113)).heap[w.heap.size]? = some (.cells #[.int .i64 x.f0.f0, .slice A1 x.f0.f1.length c1, .slice A2 x.f1.length c2, .slice A3 x.f2.length c3] 40 (0, 0))) := Lib.hid (blk_alloc (blk_new w _) _)
  have HX1 : Hid (((w.alloc (.cells #[.int .i64 x.f0.f0, .slice A1 x.f0.f1.length c1, .slice A2 x.f1.length c2, .slice A3 x.f2.length c3] 40)).alloc (.cells #[.int .i64 id, .int .i64 1, .slice Ap lp cp, .slice B m e', .int .i64 (R.pk : Nat)] 113)).heap[w.heap.size + 1]? = some (.cells #[.int .i64 id, .int .i64 1, .slice Ap lp cp, .slice B m e', .int .i64 (R.pk : Nat)] 113 (0, 0))) := Lib.hid (by
    have := blk_new (w.alloc (.cells #[.int .i64 x.f0.f0, .slice A1 x.f0.f1.length c1, .slice A2 x.f1.length c2, .slice A3 x.f2.length c3] 40)) (.cells #[.int .i64 id, .int .i64 1, .slice Ap lp cp, .slice B m e', .int .i64 (R.pk : Nat)] 113)
    simp only [World.size_alloc] at this
    exact this)
  have HPT := Lib.hid (part35 x A1 c1 A2 c2 A3 c3 ((w.alloc (.cells #[.int .i64 x.f0.f0, .slice A1 x.f0.f1.length c1, .slice A2 x.f1.length c2, .slice A3 x.f2.length c3] 40)).alloc (.cells #[.int .i64 id, .int .i64 1, .slice Ap lp cp, .slice B m e', .int .i64 (R.pk : Nat)] 113)) (Kd.C_below hC1 HBW.out) (Kd.C_below hC2 HBW.out) (Kd.C_below hC3 HBW.out) hp)
  replace HCt := Lib.hid (Kd.C_alloc HCt.out (.cells #[.int .i64 id, .int .i64 1, .slice Ap lp cp, .slice B m e', .int .i64 (R.pk : Nat)] 113))
  clear h h0 hn hs hst hid hog hlt hnl hi hu hin0 h1 h2 ht hL hm hm' xf hpk4 hroom hC1 hC2 hC3 hp
  go_enter Try.func36, Try.ntmps36
  go_upto_region 7 with (go_at_call 51; refine HP.out.mono ?_; rintro e w1 ⟨rfl, rfl⟩)
  clear x0 x1 x2 x3 x4 q3 q0
  go_wp2_with (fail)
  generalize ((w.alloc (.cells #[.int .i64 x.f0.f0, .slice A1 x.f0.f1.length c1, .slice A2 x.f1.length c2, .slice A3 x.f2.length c3] 40)).alloc (.cells #[.int .i64 id, .int .i64 1, .slice Ap lp cp, .slice B m e', .int .i64 (R.pk : Nat)] 113)) = W1 at *
  have b2 : W1.cell? ⟨w.heap.size + 1, 3, none⟩ = some (.slice B m e') := blk_at HX1.out 3 rfl
  go_loopw [11] (fun v11 wr => ∃ k : Nat, k ≤ m ∧ v11 = .int .i64 k ∧ Hid (inR R.ts task k = false) ∧ wr = W1) (fun v11 _ => m - (intOf v11).toNat)
  case atStart => exact ⟨0, Nat.zero_le _, rfl, Lib.hid rfl, rfl⟩
  case round =>
    obtain ⟨k, hk, rfl, HF, hw⟩ := hrel
    subst hw
    by_cases hlt : k < m
    · obtain ⟨ad, rfl, y0⟩ := at_Int HCt.out k hlt
      have hst : inR R.ts task (k + 1) = (inR R.ts task k || (R.ts.getD k 0 == task)) := rfl
      rw [HF.out, Bool.false_or] at hst
      have hne : (R.ts.getD k 0 == task) = false := by
        rw [← hst]
        exact inR_false HIN.out (by omega)
      have HF2 : Hid (inR R.ts task (k + 1) = false) := Lib.hid (hst.trans hne)
      clear hst
      generalize R.ts.getD k 0 = y at *
      go_wp2_with (fail)
      go_roundw
      case rel => exact ⟨k + 1, by omega, by go_num, HF2, trivial⟩
      case measure => simp [intOf]; omega
    · obtain rfl : k = m := by omega
      have p0 : wr.cell? ⟨w.heap.size, 0, none⟩ = some (.int .i64 x.f0.f0) := blk_at HX0.out 0 rfl
      have p1 : wr.cell? ⟨w.heap.size, 1, none⟩ = some (.slice A1 x.f0.f1.length c1) := blk_at HX0.out 1 rfl
      have p2 : wr.cell? ⟨w.heap.size, 2, none⟩ = some (.slice A2 x.f1.length c2) := blk_at HX0.out 2 rfl
      have p3 : wr.cell? ⟨w.heap.size, 3, none⟩ = some (.slice A3 x.f2.length c3) := blk_at HX0.out 3 rfl
      go_upto_region 13 with (go_at_call 35; refine HPT.out.mono ?_; rintro e w2 ⟨v1, v2, v3, rfl, hv1, hv2, hv3, hb⟩
                              obtain ⟨Aa, ca, rfl⟩ := Kd.R_slice hv1.out
                              obtain ⟨Ab, cb, rfl⟩ := Kd.R_slice hv2.out
                              obtain ⟨Ac, cc, rfl⟩ := Kd.R_slice hv3.out)
      clear p0 p1 p2 p3 b2
      obtain ⟨na, hna⟩ : ∃ n, n = x.f0.f1.length := ⟨_, rfl⟩
      obtain ⟨nb, hnb⟩ : ∃ n, n = x.f1.length := ⟨_, rfl⟩
      obtain ⟨nc, hnc⟩ : ∃ n, n = x.f2.length := ⟨_, rfl⟩
      rw [← hna] at hv1
      rw [← hnb] at hv2
      rw [← hnc] at hv3
      rw [← hna, ← hnb, ← hnc]
      clear hna hnb hnc
      have HB2 : Hid (Below wr.heap.size wr (w2.alloc (.cells #[.int .i64 x.f0.f0, .slice Aa na ca, .slice Ab nb cb, .slice Ac nc cc] 40))) := Lib.hid (hb.out.alloc hb.out.size _)
      have HV1 := Lib.hid (Kd.R_alloc hv1.out (.cells #[.int .i64 x.f0.f0, .slice Aa na ca, .slice Ab nb cb, .slice Ac nc cc] 40))
      have HV2 := Lib.hid (Kd.R_alloc hv2.out (.cells #[.int .i64 x.f0.f0, .slice Aa na ca, .slice Ab nb cb, .slice Ac nc cc] 40))
      have HV3 := Lib.hid (Kd.R_alloc hv3.out (.cells #[.int .i64 x.f0.f0, .slice Aa na ca, .slice Ab nb cb, .slice Ac nc cc] 40))
      have HX2 : Hid ((w2.alloc (.cells #[.int .i64 x.f0.f0, .slice Aa na ca, .slice Ab nb cb, .slice Ac nc cc] 40)).heap[w2.heap.size]? = some (.cells #[.int .i64 x.f0.f0, .slice Aa na ca, .slice Ab nb cb, .slice Ac nc cc] 40 (0, 0))) := Lib.hid (blk_new _ _)
      have HX1' := Lib.hid (blk_below HX1.out HB2.out)
      generalize w2.heap.size = b2 at *
      generalize w2.alloc (.cells #[.int .i64 x.f0.f0, .slice Aa na ca, .slice Ab nb cb, .slice Ac nc cc] 40) = W2 at *
      clear hv1 hv2 hv3 hb HX0 HX1 HPT HCt
      obtain ⟨o1, ho1⟩ : ∃ o1, o1 = fresh own w (tg + 4) := ⟨_, rfl⟩
      obtain ⟨o2, ho2⟩ : ∃ o2, o2 = fresh o1 wr 0 := ⟨_, rfl⟩
      have hszw : w.heap.size ≤ wr.heap.size := HBW.out.size
      have hszb : w.heap.size + 1 < wr.heap.size := HSZ.out
      have HU2 : Hid (Upd (fun _ => False) own w o2 W2) := Lib.hid (Upd.of_below' (HBW.out.trans (HB2.out.mono hszw)) (fun k hk => by rw [ho2, fresh_old (Nat.lt_of_lt_of_le hk hszw), ho1, fresh_old hk]))
      have hob1 : o2 (w.heap.size + 1) = tg + 4 := by rw [ho2, fresh_old hszb, ho1, fresh_new (by omega)]
      have hnew : ∀ k, wr.heap.size ≤ k → o2 k = 0 := fun k hk => by rw [ho2, fresh_new hk]
      have HX : Hid (St k40 o2 W2 x [.int .i64 x.f0.f0, .slice Aa na ca, .slice Ab nb cb, .slice Ac nc cc]) := Lib.hid (St.made (base := wr.heap.size) (k40_mkM _ _ _ x (Kd.R_mono (Kd.R_bound HV1.out) (fun k hk => hnew k hk.2.1)) (Kd.R_mono (Kd.R_bound HV2.out) (fun k hk => hnew k hk.2.1)) (Kd.R_mono (Kd.R_bound HV3.out) (fun k hk => hnew k hk.2.1))))
      have H2 := Lib.hid (HH.out.upd (T := fun _ => False) (fun h => h) (fun _ _ _ h => h) HU2.out)
      have HL2 := H2.out.hl s (last_at HIL.out HS.out)
      clear hnew HV1 HV2 HV3 HB2 ho1 ho2
      have hpp : (pk k40 o2 W2).R 40 W2 0 (fun k_ => o2 k_ = tg + 2) (.slice Ap lp cp) pps := by
        have := HL2.hp
        rw [congrArg SC.A HSA.out, congrArg SC.l HSA.out, congrArg SC.c HSA.out] at this
        exact this
      have htt : (Kd.int .i64).R 3 W2 0 (fun k_ => o2 k_ = tg + 3) (.slice B k e') R.ts := by
        have := HL2.ht
        rw [congrArg SC.B HSA.out, congrArg SC.m HSA.out, congrArg SC.e HSA.out] at this
        exact this
      have HP2 : Hid ((pk k40 o2 W2).R 40 W2 0 (fun k_ => fresh o2 W2 (tg + 2) k_ = tg + 2) (.slice Ap lp cp) pps) := Lib.hid (Kd.R_mono (Kd.R_bound hpp) (fun k_ hk => (fresh_old hk.2.2.1).trans hk.1))
      have HT2 := Lib.hid htt
      have HOB := Lib.hid hob1
      have hszB : w.heap.size + 1 < W2.heap.size := blk_lt HX1'.out
      have HOB3 : Hid (fresh o2 W2 (tg + 2) (w.heap.size + 1) = tg + 4) := Lib.hid ((fresh_old hszB).trans hob1)
      have c2 : W2.cell? ⟨w.heap.size + 1, 2, none⟩ = some (.slice Ap lp cp) := blk_at HX1'.out 2 rfl
      have p0 : W2.cell? ⟨b2, 0, none⟩ = some (.int .i64 x.f0.f0) := blk_at HX2.out 0 rfl
      have p1 : W2.cell? ⟨b2, 1, none⟩ = some (.slice Aa na ca) := blk_at HX2.out 1 rfl
      have p2 : W2.cell? ⟨b2, 2, none⟩ = some (.slice Ab nb cb) := blk_at HX2.out 2 rfl
      have p3 : W2.cell? ⟨b2, 3, none⟩ = some (.slice Ac nc cc) := blk_at HX2.out 3 rfl
      clear hpp htt HL2 hob1 hszw hszb hszB
      go_upto_region 14 with (at_builtin; refine Kd.R_append (pk k40 o2 W2) (w0 := W2) 0 (by rfl) (.tmp 63) (.tmp 65) 42 40 (.agg #[.int .i64 0, .slice none 0 0, .slice none 0 0, .slice none 0 0]) 80 rfl Try.underlying42 info40 rfl (show 0 < 4 by decide) (by decide) (.slice Ap lp cp) pps (x, [.int .i64 x.f0.f0, .slice Aa na ca, .slice Ab nb cb, .slice Ac nc cc]) _ (fun k_ => fresh o2 W2 (tg + 2) k_ = tg + 2) (fun k_ => fresh o2 W2 (tg + 2) k_ = tg + 2 ∧ some k_ ≠ (Value.slice Ap lp cp).ownBlock) rfl rfl ?hp (fun _ hk => hk) ?hfr HP2.out (Below.refl _ _) (Nat.zero_le _) ?hl ?_
                              case hp => exact ⟨rfl, HX.out⟩
                              case hfr => exact fun k_ hk => fresh_new hk
                              case hl => have := HEP.out; have := HRM.out; omega
                              intro v1 w3 hO hB3 hg hat
                              obtain ⟨Aq, cq, hv1⟩ := Kd.R_slice hO
                              rw [List.length_append, ← HLP.out, List.length_singleton] at hv1
                              subst hv1
                              have HP3 := Lib.hid hO
                              have hne : some (w.heap.size + 1) ≠ (Value.slice Ap lp cp).ownBlock := fun e => by
                                have h1 := HP2.out.1 _ e.symm
                                have h2 := HOB3.out
                                omega
                              have HX3 := Lib.hid (blk_grown HX1'.out hg hne)
                              have HU3 : Hid (Upd (· = tg + 2) o2 W2 (fresh o2 W2 (tg + 2)) w3) := Lib.hid ((Upd.of_below (Below.refl _ _) (tg + 2)).then (Upd.grown hg (fun k_ hk => HP2.out.1 k_ hk)))
                              have y2 : w3.cell? ⟨w.heap.size + 1, 2, none⟩ = some (.slice Ap lp cp) := blk_at HX3.out 2 rfl
                              have z2 : w3.frozen? ⟨w.heap.size + 1, 2, none⟩ = false := blk_frozen HX3.out 2
                              clear hO hB3 hg hat hne)
      clear y2 z2 c2 p0 p1 p2 p3
      have hbsz : w.heap.size + 1 < w3.heap.size := blk_lt HX3.out
      have HU4 : Hid (Upd (· = tg + 4) (fresh o2 W2 (tg + 2)) w3 (fresh o2 W2 (tg + 2)) (w3.setCell ⟨w.heap.size + 1, 2, none⟩ (.slice Aq (lp + 1) cq))) := Lib.hid (Upd.set (p := ⟨w.heap.size + 1, 2, none⟩) HOB3.out _)
      have HX4 := Lib.hid (blk_put HX3.out 2 (.slice Aq (lp + 1) cq) rfl)
      generalize w3.setCell ⟨w.heap.size + 1, 2, none⟩ (.slice Aq (lp + 1) cq) = W4 at *
      have HP4 := Lib.hid (R_upd HP3.out (by omega) HU4.out)
      have HT4 := R_upd (R_upd HT2.out (by omega) HU3.out) (by omega) HU4.out
      generalize fresh o2 W2 (tg + 2) = o3 at *
      replace HT4 : Hid ((Kd.int .i64).R 3 W4 0 (fun k_ => fresh o3 W4 (tg + 3) k_ = tg + 3) (.slice B k e') R.ts) := Lib.hid (Kd.R_mono (Kd.R_bound HT4) (fun k_ hk => (fresh_old hk.2.2.1).trans hk.1))
      have HOB5 : Hid (fresh o3 W4 (tg + 3) (w.heap.size + 1) = tg + 4) := Lib.hid ((fresh_old (blk_lt HX4.out)).trans HOB3.out)
      have c3 : W4.cell? ⟨w.heap.size + 1, 3, none⟩ = some (.slice B k e') := blk_at HX4.out 3 rfl
      clear HX3 HT2 HP3 hbsz HX1' HX2
      go_upto_region 15 with (at_builtin; refine Kd.R_append (Kd.int .i64) (w0 := W4) 0 (by rfl) (.tmp 69) (.tmp 71) 23 3 (.int .i64 0) 8 rfl Try.underlying23 info3 rfl (show 0 < 1 by decide) (by decide) (.slice B k e') R.ts task _ (fun k_ => fresh o3 W4 (tg + 3) k_ = tg + 3) (fun k_ => fresh o3 W4 (tg + 3) k_ = tg + 3 ∧ some k_ ≠ (Value.slice B k e').ownBlock) rfl rfl ?hp (fun _ hk => hk) ?hfr HT4.out (Below.refl _ _) (Nat.zero_le _) ?hl ?_
                              case hp => rfl
                              case hfr => exact fun k_ hk => fresh_new hk
                              case hl => rw [← HM.out]; omega
                              intro v1 w5 hO hB5 hg hat
                              obtain ⟨Bq, eq, hv1⟩ := Kd.R_slice hO
                              rw [List.length_append, ← HM.out, List.length_singleton] at hv1
                              subst hv1
                              have HT5 := Lib.hid hO
                              have hne : some (w.heap.size + 1) ≠ (Value.slice B k e').ownBlock := fun e => by
                                have h1 := HT4.out.1 _ e.symm
                                have h2 := HOB5.out
                                omega
                              have HX5 := Lib.hid (blk_grown HX4.out hg hne)
                              have HU5 : Hid (Upd (· = tg + 3) o3 W4 (fresh o3 W4 (tg + 3)) w5) := Lib.hid ((Upd.of_below (Below.refl _ _) (tg + 3)).then (Upd.grown hg (fun k_ hk => HT4.out.1 k_ hk)))
                              have y3 : w5.cell? ⟨w.heap.size + 1, 3, none⟩ = some (.slice B k e') := blk_at HX5.out 3 rfl
                              have z3 : w5.frozen? ⟨w.heap.size + 1, 3, none⟩ = false := blk_frozen HX5.out 3
                              clear hO hB5 hg hat hne)
      clear y3 z3 c3
      have HU6 : Hid (Upd (· = tg + 4) (fresh o3 W4 (tg + 3)) w5 (fresh o3 W4 (tg + 3)) (w5.setCell ⟨w.heap.size + 1, 3, none⟩ (.slice Bq (k + 1) eq))) := Lib.hid (Upd.set (p := ⟨w.heap.size + 1, 3, none⟩) HOB5.out _)
      have HX6 := Lib.hid (blk_put HX5.out 3 (.slice Bq (k + 1) eq) rfl)
      generalize w5.setCell ⟨w.heap.size + 1, 3, none⟩ (.slice Bq (k + 1) eq) = W6 at *
      have HT6 := Lib.hid (R_upd HT5.out (by omega) HU6.out)
      have HP6 := Lib.hid (R_upd (R_upd HP4.out (by omega) HU5.out) (by omega) HU6.out)
      generalize fresh o3 W4 (tg + 3) = o5 at *
      -- all that may have turned since (o2, W2): tg, tg + 2, tg + 3
      have HUA : Hid (Upd (fun t_ => t_ = tg + 4 ∨ t_ = tg + 2 ∨ t_ = tg + 3) o2 W2 o5 W6) := Lib.hid (((HU3.out.mono (fun _ h => .inr (.inl h))).then (HU4.out.mono (fun _ h => .inl h))).then ((HU5.out.mono (fun _ h => .inr (.inr h))).then (HU6.out.mono (fun _ h => .inl h))))
      have HP7 := Lib.hid (pk_R HP6.out (S := fun t_ => t_ = tg + 4 ∨ t_ = tg + 2 ∨ t_ = tg + 3) H0.out HUA.out)
      clear HX5 HT5 HP6 HP4 HT4 HU3 HU4 HU5 HU6 HX4
      have Hhb := HUA.out.blk H2.out.hb (by rw [H2.out.og]; omega)
      have Hhr := R_upd H2.out.hr (S := fun t_ => t_ = tg + 4 ∨ t_ = tg + 2 ∨ t_ = tg + 3) (by omega) HUA.out
      have Hog := (HUA.out.same g (blk_lt H2.out.hb) (by rw [H2.out.og]; omega)).trans H2.out.og
      obtain ⟨x0, x1, x2, x3, x4, xf⟩ := kS_at Hhr i HS.out
      rw [congrArg SC.id HSA.out] at x0
      have eI : s.id = id := HID.out
      have eT : s.st = 1 := HST.out
      have eP : s.pk = (R.pk : Nat) := HPKE.out
      rw [eI] at x0
      rw [eT] at x1
      rw [congrArg SC.A HSA.out, congrArg SC.l HSA.out, congrArg SC.c HSA.out] at x2
      rw [congrArg SC.B HSA.out, congrArg SC.m HSA.out, congrArg SC.e HSA.out] at x3
      rw [eP] at x4
      have q3 : W6.cell? ⟨g, 3, none⟩ = some (.slice (some ⟨gs, 0, none⟩) n c) := by rw [HNL.out]; exact blk_at Hhb 3 rfl
      have b0 : W6.cell? ⟨w.heap.size + 1, 0, none⟩ = some (.int .i64 id) := blk_at HX6.out 0 rfl
      have b1 : W6.cell? ⟨w.heap.size + 1, 1, none⟩ = some (.int .i64 1) := blk_at HX6.out 1 rfl
      have b2 : W6.cell? ⟨w.heap.size + 1, 2, none⟩ = some (.slice Aq (lp + 1) cq) := blk_at HX6.out 2 rfl
      have b3 : W6.cell? ⟨w.heap.size + 1, 3, none⟩ = some (.slice Bq (k + 1) eq) := blk_at HX6.out 3 rfl
      have b4 : W6.cell? ⟨w.heap.size + 1, 4, none⟩ = some (.int .i64 (R.pk : Nat)) := blk_at HX6.out 4 rfl
      have HF := Lib.hid (RefAt.put5 (R := R) (w := W6.drew) (pps := pps ++ [(x, [.int .i64 x.f0.f0, .slice Aa na ca, .slice Ab nb cb, .slice Ac nc cc])]) ⟨R.n, R.first, R.sum, R.sts, R.ps ++ [x], R.ts ++ [task], R.pk⟩ rfl rfl rfl rfl Hhb Hhr H2.out.es H2.out.ei Hog ⟨id, 1, Aq, lp + 1, cq, Bq, k + 1, eq, (R.pk : Nat)⟩ HS.out HIL.out eI.symm eT.symm (by rw [List.map_append, H2.out.ep]; rfl) ((LastAt.mk HP7.out HT6.out rfl : LastAt o5 W6 tg ⟨id, 1, Aq, lp + 1, cq, Bq, k + 1, eq, (R.pk : Nat)⟩ (pps ++ [(x, [.int .i64 x.f0.f0, .slice Aa na ca, .slice Ab nb cb, .slice Ac nc cc])]) (R.ts ++ [task]) R.pk).upd (T := fun _ => False) (fun h => h) (fun h => h) (fun h => h) Upd.drew)
        ⟨H2.out.ok.n1, H2.out.ok.n2, H2.out.ok.f1, H2.out.ok.f2, by show (R.ts ++ [task]).length = (R.ps ++ [x]).length; rw [List.length_append, List.length_append, H2.out.ok.lt]; rfl, by show (R.ps ++ [x]).length ≤ 12; rw [List.length_append, List.length_singleton]; have := HRM.out; omega, by show R.pk ≤ (R.ps ++ [x]).length; rw [List.length_append]; have := H2.out.ok.lp; omega⟩)
      clear Hhb Hhr Hog eI eT eP
      refine start_ (n := 8) (S := (fun w' => w'.cell? ⟨g, 3, none⟩ = some (.slice (some ⟨gs, 0, none⟩) n c) ∧ w'.cell? ⟨w.heap.size + 1, 0, none⟩ = some (.int .i64 id) ∧ w'.cell? ⟨w.heap.size + 1, 1, none⟩ = some (.int .i64 1) ∧ w'.cell? ⟨w.heap.size + 1, 2, none⟩ = some (.slice Aq (lp + 1) cq) ∧ w'.cell? ⟨w.heap.size + 1, 3, none⟩ = some (.slice Bq (k + 1) eq) ∧ w'.cell? ⟨w.heap.size + 1, 4, none⟩ = some (.int .i64 (R.pk : Nat)))) (ds := [7]) #[false, false, false, false, false, false, false, false] (by kernel_rfl) rfl rfl ⟨(show W6.drew.cell? _ = _ from q3), (show W6.drew.cell? _ = _ from b0), (show W6.drew.cell? _ = _ from b1), (show W6.drew.cell? _ = _ from b2), (show W6.drew.cell? _ = _ from b3), (show W6.drew.cell? _ = _ from b4)⟩ (fun hHeld => ?_)
      have y0 : W6.drew.cell? ⟨gs, i * 5, none⟩ = some (.int .i64 id) := x0
      have y1 : W6.drew.cell? ⟨gs, i * 5 + 1, none⟩ = some (.int .i64 1) := x1
      have y2 : W6.drew.cell? ⟨gs, i * 5 + 2, none⟩ = some (.slice Ap lp cp) := x2
      have y3 : W6.drew.cell? ⟨gs, i * 5 + 3, none⟩ = some (.slice B k e') := x3
      have y4 : W6.drew.cell? ⟨gs, i * 5 + 4, none⟩ = some (.int .i64 (R.pk : Nat)) := x4
      have z0 : W6.drew.frozen? ⟨gs, i * 5, none⟩ = false := xf _
      have z1 : W6.drew.frozen? ⟨gs, i * 5 + 1, none⟩ = false := xf _
      have z2 : W6.drew.frozen? ⟨gs, i * 5 + 2, none⟩ = false := xf _
      have z3 : W6.drew.frozen? ⟨gs, i * 5 + 3, none⟩ = false := xf _
      have z4 : W6.drew.frozen? ⟨gs, i * 5 + 4, none⟩ = false := xf _
      refine pure_ (i := 0) (N := some 74) (v := ?_) (a' := ?_) #[true, false, false, false, false, false, false, false] rfl rfl (by kernel_rfl) (fun _ _ _ h => h) (Or.inl ⟨by rfl, ?_⟩) ?_ ?_
      rotate_left
      · intro w'
        go_simp
        with_reducible rfl
      rotate_left
      · simp only [Act.put, List.setIfInBounds_toArray, List.set_cons_zero, List.set_cons_succ]
        rfl
      refine pure_ (i := 1) (N := some 75) (v := ?_) (a' := ?_) #[true, true, false, false, false, false, false, false] rfl rfl (by kernel_rfl) (fun _ _ _ h => h) (Or.inl ⟨by rfl, ?_⟩) ?_ ?_
      rotate_left
      · intro w'
        go_simp
        with_reducible rfl
      rotate_left
      · simp only [Act.put, List.setIfInBounds_toArray, List.set_cons_zero, List.set_cons_succ]
        rfl
      refine pure_ (i := 2) (N := some 76) (v := ?_) (a' := ?_) #[true, true, true, false, false, false, false, false] rfl rfl (by kernel_rfl) (fun _ _ _ h => h) (Or.inl ⟨by rfl, ?_⟩) ?_ ?_
      rotate_left
      · intro w'
        go_simp
        with_reducible rfl
      rotate_left
      · simp only [Act.put, List.setIfInBounds_toArray, List.set_cons_zero, List.set_cons_succ]
        rfl
      refine take_ (i := 3) (N := some 77) (v := ?_) (a' := ?_) #[true, true, true, true, false, false, false, false] rfl rfl (by kernel_rfl) (fun _ _ _ h => h) (Or.inl ⟨by rfl, ?_⟩) hHeld ?_ ?_
      rotate_left
      · rintro w' ⟨s0, s1, s2, s3, s4, s5⟩
        go_simp
        with_reducible rfl
      rotate_left
      · simp only [Act.put, List.setIfInBounds_toArray, List.set_cons_zero, List.set_cons_succ]
        rfl
      refine pure_ (i := 4) (N := some 78) (v := ?_) (a' := ?_) #[true, true, true, true, true, false, false, false] rfl rfl (by kernel_rfl) (fun _ _ _ h => h) (Or.inl ⟨by rfl, ?_⟩) ?_ ?_
      rotate_left
      · intro w'
        go_simp
        with_reducible rfl
      rotate_left
      · simp only [Act.put, List.setIfInBounds_toArray, List.set_cons_zero, List.set_cons_succ]
        rfl
      refine take_ (i := 5) (N := some 79) (v := ?_) (a' := ?_) #[true, true, true, true, true, true, false, false] rfl rfl (by kernel_rfl) (fun _ _ _ h => h) (Or.inl ⟨by rfl, ?_⟩) hHeld ?_ ?_
      rotate_left
      · rintro w' ⟨s0, s1, s2, s3, s4, s5⟩
        go_simp
        with_reducible rfl
      rotate_left
      · simp only [Act.put, List.setIfInBounds_toArray, List.set_cons_zero, List.set_cons_succ]
        rfl
      refine pure_ (i := 6) (N := some 80) (v := ?_) (a' := ?_) #[true, true, true, true, true, true, true, false] rfl rfl (by kernel_rfl) (fun _ _ _ h => h) (Or.inl ⟨by rfl, ?_⟩) ?_ ?_
      rotate_left
      · intro w'
        go_simp
        with_reducible rfl
      rotate_left
      · simp only [Act.put, List.setIfInBounds_toArray, List.set_cons_zero, List.set_cons_succ]
        rfl
      refine last_ (i := 7) (N := none) #[true, true, true, true, true, true, true, true] rfl rfl (by kernel_rfl) (by decide) (fun K hK => ?_)
      refine skip_ (w1 := (((((W6.drew.setCell ⟨gs, i * 5, none⟩ (.int .i64 id)).setCell ⟨gs, i * 5 + 1, none⟩ (.int .i64 1)).setCell ⟨gs, i * 5 + 2, none⟩ (.slice Aq (lp + 1) cq)).setCell ⟨gs, i * 5 + 3, none⟩ (.slice Bq (k + 1) eq)).setCell ⟨gs, i * 5 + 4, none⟩ (.int .i64 (R.pk : Nat)))) (by rfl) rfl (by go_simp) ?_
      refine hK.out _ _ ?_
      clear hK K
      refine done_ (by kernel_rfl) ?_
      go_wp2_with (fail)
      go_ret
      refine ⟨rfl, o5, _, _, _, _, HF.out.1, ?_⟩
      refine ((HU2.out.mono (fun _ h => h.elim)).then (HUA.out.mono (fun t_ ht => ?_))).then ((Upd.drew (S := Tg tg)).then (HF.out.2.mono (fun t_ ht => ?_)))
      · unfold Tg; omega
      · unfold Tg; omega
theorem hand36 (own : Nat → Nat) (w : World) (g tg : Nat) (R : RA) (A : Option Addr) (c : Nat) (rows : List SC) (pps : List PP) (h : RefAt own w g tg R A c rows pps) (id task : Int) (x : S40) (A1 : Option Addr) (c1 : Nat) (A2 : Option Addr) (c2 : Nat) (A3 : Option Addr) (c3 : Nat) (hroom : inTs R.ts task = false → 0 ≤ task → task < (R.n : Int) → 0 ≤ R.now → R.ps.length < 12) (hC1 : Kd.C k103 w A1 x.f0.f1.length x.f0.f1) (hC2 : Kd.C (Kd.slice 83 k83) w A2 x.f1.length x.f1) (hC3 : Kd.C k83 w A3 x.f2.length x.f2) (hp : partsP x ≤ 100000) :
    Calls Try.prog 36 #[.pointer (some ⟨g, 0, none⟩), .int .i64 id, .int .i64 task, .agg #[.int .i64 x.f0.f0, .slice A1 x.f0.f1.length c1, .slice A2 x.f1.length c2, .slice A3 x.f2.length c3]] w fun e w' => e = .returned (.int .i64 (R.hand id task x).1) ∧ RefTo own w g tg (R.hand id task x).2 w' := by
  have stay : ∀ (E : Int) (e : Ending) (w' : World), e = .returned (.int .i64 E) ∧ Hid (Below w.heap.size w w') → e = .returned (.int .i64 E) ∧ RefTo own w g tg R w' := fun E e w' he =>
    ⟨he.1, .same h (Upd.of_below' he.2.out (fun _ _ => rfl))⟩
  unfold RA.hand
  by_cases h1 : task < 0
  · rw [if_pos (.inl h1)]
    exact (hand36_t1 own w g tg R A c rows pps h id task x A1 c1 A2 c2 A3 c3 h1).mono (fun e w' he => stay _ e w' he)
  by_cases h2 : (R.n : Int) ≤ task
  · rw [if_pos (.inr h2)]
    exact (hand36_t2 own w g tg R A c rows pps h id task x A1 c1 A2 c2 A3 c3 h1 h2).mono (fun e w' he => stay _ e w' he)
  rw [if_neg (by omega)]
  rcases R.now_cases with hn | ⟨i, hn, hi, hu⟩
  · rw [if_pos (.inl (by omega))]
    exact (hand36_o1 own w g tg R A c rows pps h id task x A1 c1 A2 c2 A3 c3 h1 h2 hn).mono (fun e w' he => stay _ e w' he)
  · by_cases hid : R.first + R.now = id
    · rw [if_neg (by omega)]
      rw [← hid, hn]
      by_cases h3 : inTs R.ts task = true
      · rw [if_pos h3]
        exact (hand36_tw own w g tg R A c rows pps h i task x A1 c1 A2 c2 A3 c3 h1 h2 hn hi hu h3).mono (fun e w' he => stay _ e w' he)
      · rw [if_neg h3]
        have h4 : inTs R.ts task = false := by simpa using h3
        exact hand36_ok own w g tg R A c rows pps h i task x A1 c1 A2 c2 A3 c3 h1 h2 hn hi hu h4 (hroom h4 (by omega) (by omega) (by omega)) hC1 hC2 hC3 hp
    · rw [if_pos (.inr hid)]
      exact (hand36_o2 own w g tg R A c rows pps h id i task x A1 c1 A2 c2 A3 c3 h1 h2 hn hi (by rw [← hn]; exact hid)).mono (fun e w' he => stay _ e w' he)
end Go.Proofs.Ytcbaiplamaopeaa.PPostShots
