/- PostStatus, walked. -/
import Derived.Test.YtcbaiplamaopeaaPM
import Derived.Test.YtcbaiplamaopeaaPK
import Derived.Test.YtcbaiplamaopeaaSI
namespace Go.Proofs.Ytcbaiplamaopeaa.PPostShots
open Go.RowKit Go.Conc Go.Proofs.YtcbaiplamaopeaaW.PrintWords Go.Proofs.YtcbaiplamaopeaaW.PrintLast Go.Proofs.Ytcbaiplamaopeaa.PPost
set_option linter.unusedVariables false
set_option linter.unusedSimpArgs false

/-- Whatever Pick answers: each status goes its way. -/
theorem pick_any {own : Nat → Nat} {w w' : World} {g nm : Nat} {S : PS} {e : Ending} {first : Int} {W : List Int} (hq : PickAns own w g 1 nm S e w') (h : SInv first S W) (ok : S.Ok) :
    ∃ v S', e = .returned v ∧ PostTo own w g 1 (nm + 1) S' w' ∧ MO first S' W ∧ SInv first S' (newW first S' W.length) := by
  unfold PickAns at hq
  match hb : S.buf with
  | [] =>
    rw [hb] at hq
    obtain ⟨rfl, own', bm, c, bw, bp, nm', s, r, pps, pbuf, hP, hU, hn⟩ := hq
    exact ⟨_, S, rfl, ⟨own', bm, c, bw, bp, nm', s, r, pps, pbuf, hP, hU, by omega⟩, h.same S rfl rfl rfl h.b0⟩
  | (t, x) :: rest =>
    rw [hb] at hq
    simp only [] at hq
    by_cases ha : (S.took t x).all2 = true
    · rw [if_pos ha] at hq
      obtain ⟨own', bm, c, bw, bp, nm', s, r, pps, pbuf, v, rfl, -, hP, hU, hn⟩ := hq
      exact ⟨_, _, rfl, ⟨own', bm, c, bw, bp, nm', s, r, pps, pbuf, hP, hU, hn⟩, h.shot ok hb⟩
    · rw [if_neg ha] at hq
      obtain ⟨rfl, own', bm, c, bw, bp, nm', s, r, pps, pbuf, hP, hU, hn⟩ := hq
      exact ⟨_, _, rfl, ⟨own', bm, c, bw, bp, nm', s, r, pps, pbuf, hP, hU, by omega⟩, h.took hb⟩
set_option maxRecDepth 100000 in
set_option maxHeartbeats 40000000 in
theorem postStatus_walk (a b : Int) (l : List S57) (A : Option Addr) (cl : Nat) (w : World) (hC : Kd.C k57 w A l.length l) (hcl : l.length ≤ cl) (hl : ∀ o ∈ l, lenO o) (hb : l.length ≤ 20000000000000) :
    Calls Try.prog 6 #[.int .i64 a, .int .i64 b, .slice A l.length cl] w fun e w' => e = .returned (.bool true) ∧ Below w.heap.size w w' := by
  have HF := Lib.hid (few15 l A cl w hC hl)
  obtain ⟨m, hm⟩ : ∃ m, m = l.length := ⟨_, rfl⟩
  have Hm := Lib.hid hm
  have HC := Lib.hid hC
  have HL := Lib.hid hl
  have hm20 : m ≤ 20000000000000 := by omega
  rw [← hm] at HF ⊢
  clear hC hcl hl hb hm
  go_enter Try.func6, Try.ntmps6
  go_upto_if 22 with (go_at_call 15; refine HF.out.mono ?_; rintro e w0 ⟨bb, rfl, hbb, hB0⟩)
  clear HF
  cases bb with
  | false =>
    go_wp2_with (fail)
    go_ret
    exact ⟨rfl, hB0⟩
  | true =>
  have Hfew := Lib.hid (hbb rfl)
  have HB0 := Lib.hid hB0
  clear hbb hB0
  go_upto_region 7 with (first
    | (go_at_call 7; refine (fair7 a b w0).mono ?_; rintro e w1 ⟨n, first, rfl, n1, n2, f1, f2, HB1⟩)
    | (go_at_call 8; refine (new8_ok n first 5 (fun _ => 0) w1 1 (by decide) n1 n2 f1 (by omega)).mono ?_; rintro e w2 ⟨g, own2, bm, c, bw, bp, pps, rfl, HP2, HU2, hg, hown2⟩)
    | (go_at_call 14; have hst := status14 own2 w2 g 1 _ bm c bw bp 0 0 0 pps [] HP2.out (by decide) first (wf_of (by omega) (by omega))
       rw [show (PS.new n first 5).f first = 0 from rfl] at hst
       refine hst.mono ?_; rintro e w3 ⟨rfl, rfl⟩))
  have HUa : Hid (Upd (fun t => t = 1 ∨ t = 2) (fun _ => 0) w own2 w2) := Lib.hid (((Upd.of_below' HB0.out (fun _ _ => rfl)).then (Upd.of_below' HB1.out (fun _ _ => rfl))).then (HU2.out.mono (fun _ h => h.elim)))
  have HSa := Lib.hid (SInv.new n first 5 f1)
  clear HB0 HB1 HU2 hg hown2
  generalize PS.new n first 5 = S0 at *
  go_upto_block 0 with (fail)
  go_cut [9, 10] (fun v9 v10 wr => ∃ (S : PS) (W : List Int) (La : Int) (ownr : Nat → Nat) (bm c bw bp nm s r : Nat) (pps : List PP) (pbuf : List (Nat × PP)), v10 = .int .i64 La ∧ (0 ≤ La ∧ La ≤ 9999) ∧ Hid (La + 1 = first + (W.length : Int)) ∧ Hid (PostAt ownr wr g 1 S bm c bw bp nm s r pps pbuf) ∧ Hid (SInv first S W) ∧ Hid (RW ownr wr v9 W) ∧ Hid (Upd (fun t => t = 1 ∨ t = 2) (fun _ => 0) w ownr wr) ∧ Hid (nm ≤ 2 * m))
  case first =>
    go_wp2_with (fail)
    go_loopw [9, 10, 11] (fun v9 v10 v11 wr => ∃ (k : Nat) (S : PS) (W : List Int) (La : Int) (ownr : Nat → Nat) (bm c bw bp nm s r : Nat) (pps : List PP) (pbuf : List (Nat × PP)), k ≤ m ∧ v11 = .int .i64 k ∧ v10 = .int .i64 La ∧ (0 ≤ La ∧ La ≤ 9999) ∧ Hid (La + 1 = first + (W.length : Int)) ∧ Hid (PostAt ownr wr g 1 S bm c bw bp nm s r pps pbuf) ∧ Hid (SInv first S W) ∧ Hid (RW ownr wr v9 W) ∧ Hid (Upd (fun t => t = 1 ∨ t = 2) (fun _ => 0) w ownr wr) ∧ Hid (nm ≤ 2 * k)) (fun _ _ v11 _ => m - (intOf v11).toNat)
    case atStart => exact ⟨0, S0, [], first - 1, own2, bm, c, bw, bp, 0, 0, 0, pps, [], Nat.zero_le _, rfl, rfl, ⟨by omega, by omega⟩, Lib.hid (by simp), HP2, HSa, Lib.hid (RW.nil _ _), HUa, Lib.hid (Nat.zero_le _)⟩
    case round =>
      clear HP2 HSa HUa
      obtain ⟨k, S, Wr, La, ownr, bm, c, bw, bp, nm, s, r, pps, pbuf, hk, rfl, rfl, ⟨La0, La1⟩, HLa, HP, HSI, HR, HU, Hnm⟩ := hrel
      obtain ⟨Aw, cw, hv⟩ := Kd.R_slice HR.out
      subst hv
      by_cases hlt : k < m
      · have hBw : Below w.heap.size w wr := HU.out.below (Nat.le_refl _) (fun k _ h => by rcases h with h | h <;> exact absurd h (by decide))
        obtain ⟨ad, A6, c6, A7, c7, A8, c8, hA, e0, e1, e2, e3, e4, e5, e6, e7, e8, e9, hl6, hC6, hl7, hC7, hl8, hC8⟩ := at_T57 (Kd.C_below HC.out hBw) (k : Int) (by omega) (by rw [← Hm.out]; omega)
        have hmem : rd_T57 l (k : Int) ∈ l := getD_mem _ _ _ (by rw [Int.toNat_natCast, ← Hm.out]; exact hlt)
        generalize rd_T57 l (k : Int) = o at *
        have Hlo := Lib.hid (HL.out o hmem)
        have Hpo := Lib.hid (Hfew.out o hmem)
        rw [Int.toNat_natCast] at e0 e1 e2 e3 e4 e5 e6 e7 e8 e9
        obtain ⟨own1, hown1⟩ : ∃ own1 : Nat → Nat, own1 = fresh ownr wr 3 := ⟨_, rfl⟩
        have HXb := Lib.hid (blk_new wr (.cells #[.int .i64 o.f0, .bool o.f1, .bool o.f2, .int .i64 o.f3, .int .i64 o.f4, .int .i64 o.f5.f0.f0, .slice A6 o.f5.f0.f1.length c6, .slice A7 o.f5.f1.length c7, .slice A8 o.f5.f2.length c8, .bool o.f6] 57))
        have HBb : Hid (Below wr.heap.size wr (wr.alloc (.cells #[.int .i64 o.f0, .bool o.f1, .bool o.f2, .int .i64 o.f3, .int .i64 o.f4, .int .i64 o.f5.f0.f0, .slice A6 o.f5.f0.f1.length c6, .slice A7 o.f5.f1.length c7, .slice A8 o.f5.f2.length c8, .bool o.f6] 57))) := Lib.hid ((Below.refl _ _).alloc (Nat.le_refl _) _)
        have HPb : Hid (PostAt own1 (wr.alloc (.cells #[.int .i64 o.f0, .bool o.f1, .bool o.f2, .int .i64 o.f3, .int .i64 o.f4, .int .i64 o.f5.f0.f0, .slice A6 o.f5.f0.f1.length c6, .slice A7 o.f5.f1.length c7, .slice A8 o.f5.f2.length c8, .bool o.f6] 57)) g 1 S bm c bw bp nm s r pps pbuf) := Lib.hid (by rw [hown1]; exact HP.out.upd (T := fun _ => False) (fun e => e) (fun e => e) (Upd.alloc _ 3))
        have HRb : Hid (RW own1 (wr.alloc (.cells #[.int .i64 o.f0, .bool o.f1, .bool o.f2, .int .i64 o.f3, .int .i64 o.f4, .int .i64 o.f5.f0.f0, .slice A6 o.f5.f0.f1.length c6, .slice A7 o.f5.f1.length c7, .slice A8 o.f5.f2.length c8, .bool o.f6] 57)) (.slice Aw Wr.length cw) Wr) := Lib.hid (by rw [hown1]; exact HR.out.upd (T := fun _ => False) (fun e => e) (Upd.alloc _ 3))
        have HUb : Hid (Upd (fun t => t = 1 ∨ t = 2) (fun _ => 0) w own1 (wr.alloc (.cells #[.int .i64 o.f0, .bool o.f1, .bool o.f2, .int .i64 o.f3, .int .i64 o.f4, .int .i64 o.f5.f0.f0, .slice A6 o.f5.f0.f1.length c6, .slice A7 o.f5.f1.length c7, .slice A8 o.f5.f2.length c8, .bool o.f6] 57))) := Lib.hid (by rw [hown1]; exact HU.out.then (Upd.alloc _ 3))
        have Hbx : Hid (own1 wr.heap.size = 3) := Lib.hid (by rw [hown1]; exact fresh_new (Nat.le_refl _))
        have HC6 := Lib.hid hC6
        have HC7 := Lib.hid hC7
        have HC8 := Lib.hid hC8
        have HLs := Lib.hid (And.intro hl6 (And.intro hl7 hl8))
        subst hA
        clear hBw hmem hown1 hC6 hC7 hC8 hl6 hl7 hl8
        go_upto_region 13 with (fail)
        clear e0 e1 e2 e3 e4 e5 e6 e7 e8 e9
        generalize wr.alloc (.cells #[.int .i64 o.f0, .bool o.f1, .bool o.f2, .int .i64 o.f3, .int .i64 o.f4, .int .i64 o.f5.f0.f0, .slice A6 o.f5.f0.f1.length c6, .slice A7 o.f5.f1.length c7, .slice A8 o.f5.f2.length c8, .bool o.f6] 57) = wb at *
        generalize hbx : wr.heap.size = bx at *
        have Hbxe := Lib.hid hbx
        clear hbx
        have q0 : wb.cell? ⟨bx, 0, none⟩ = some (.int .i64 o.f0) := blk_at HXb.out 0 rfl
        have q1 : wb.cell? ⟨bx, 1, none⟩ = some (.bool o.f1) := blk_at HXb.out 1 rfl
        have q2 : wb.cell? ⟨bx, 2, none⟩ = some (.bool o.f2) := blk_at HXb.out 2 rfl
        have q3 : wb.cell? ⟨bx, 3, none⟩ = some (.int .i64 o.f3) := blk_at HXb.out 3 rfl
        have q4 : wb.cell? ⟨bx, 4, none⟩ = some (.int .i64 o.f4) := blk_at HXb.out 4 rfl
        have q5 : wb.cell? ⟨bx, 5, none⟩ = some (.int .i64 o.f5.f0.f0) := blk_at HXb.out 5 rfl
        have q6 : wb.cell? ⟨bx, 6, none⟩ = some (.slice A6 o.f5.f0.f1.length c6) := blk_at HXb.out 6 rfl
        have q7 : wb.cell? ⟨bx, 7, none⟩ = some (.slice A7 o.f5.f1.length c7) := blk_at HXb.out 7 rfl
        have q8 : wb.cell? ⟨bx, 8, none⟩ = some (.slice A8 o.f5.f2.length c8) := blk_at HXb.out 8 rfl
        have q9 : wb.cell? ⟨bx, 9, none⟩ = some (.bool o.f6) := blk_at HXb.out 9 rfl
        have HBc : Hid (Below wr.heap.size wr wb) := Lib.hid (by rw [Hbxe.out]; exact HBb.out)
        have HNUM := Lib.hid (number21 o La A6 c6 A7 c7 A8 c8 wb (Kd.C_below HC6.out HBc.out) HLs.out.1 (Kd.C_below HC7.out HBc.out) HLs.out.2.1 (Kd.C_below HC8.out HBc.out) HLs.out.2.2)
        have HIDf := Lib.hid (numOf_wf (last := La) Hlo.out.2)
        generalize numOf o La = id at *
        go_upto_block 2 with (go_at_call 21; refine HNUM.out.mono ?_; rintro e w2 ⟨rfl, hb⟩
                              have HX2 := Lib.hid (blk_below HXb.out hb.out)
                              have HP2 := Lib.hid (HPb.out.upd (T := fun _ => False) (own' := own1) (fun e => e) (fun e => e) (Upd.of_below' hb.out (fun _ _ => rfl)))
                              have HR2 := Lib.hid (HRb.out.upd (T := fun _ => False) (own' := own1) (fun e => e) (Upd.of_below' hb.out (fun _ _ => rfl)))
                              have HU2 := Lib.hid (HUb.out.then (o3 := own1) (Upd.of_below' hb.out (fun _ _ => rfl)))
                              have HB2 := Lib.hid (HBc.out.trans (hb.out.mono HBc.out.size))
                              have p0 : w2.cell? ⟨bx, 0, none⟩ = some (.int .i64 o.f0) := blk_at HX2.out 0 rfl
                              clear hb)
        have HID := HIDf
        clear HNUM HIDf HXb HPb HRb HUb HBb HBc q0 q1 q2 q3 q4 q5 q6 q7 q8 q9 HP HR HU
        have D6 := Lib.hid (Kd.C_below HC6.out HB2.out)
        have D7 := Lib.hid (Kd.C_below HC7.out HB2.out)
        have D8 := Lib.hid (Kd.C_below HC8.out HB2.out)
        have p4 : w2.cell? ⟨bx, 4, none⟩ = some (.int .i64 o.f4) := blk_at HX2.out 4 rfl
        have p5 : w2.cell? ⟨bx, 5, none⟩ = some (.int .i64 o.f5.f0.f0) := blk_at HX2.out 5 rfl
        have p6 : w2.cell? ⟨bx, 6, none⟩ = some (.slice A6 o.f5.f0.f1.length c6) := blk_at HX2.out 6 rfl
        have p7 : w2.cell? ⟨bx, 7, none⟩ = some (.slice A7 o.f5.f1.length c7) := blk_at HX2.out 7 rfl
        have p8 : w2.cell? ⟨bx, 8, none⟩ = some (.slice A8 o.f5.f2.length c8) := blk_at HX2.out 8 rfl
        have p9 : w2.cell? ⟨bx, 9, none⟩ = some (.bool o.f6) := blk_at HX2.out 9 rfl
        go_cut [9, 10] (fun v9 v10 wx => ∃ (S : PS) (W : List Int) (La : Int) (ownr : Nat → Nat) (bm c bw bp nm s r : Nat) (pps : List PP) (pbuf : List (Nat × PP)), v10 = .int .i64 La ∧ (0 ≤ La ∧ La ≤ 9999) ∧ Hid (La + 1 = first + (W.length : Int)) ∧ Hid (PostAt ownr wx g 1 S bm c bw bp nm s r pps pbuf) ∧ Hid (MO first S W) ∧ Hid (SInv first S (newW first S W.length)) ∧ Hid (RW ownr wx v9 W) ∧ Hid (Upd (fun t => t = 1 ∨ t = 2) (fun _ => 0) w ownr wx) ∧ Hid (nm ≤ 2 * k + 2))
        case first =>
          by_cases h1 : o.f0 = 1
          · have k1 : (o.f0 == 1) = true := by simpa using h1
            have HT := Lib.hid (trigger9 own1 w2 g 1 S bm c bw bp nm s r pps pbuf HP2.out (by decide) (by have := Hnm.out; have := hm20; unfold maxLen; omega))
            clear h1
            rcases HSI.out.trig with ⟨t1, t2, tMO, tSI⟩ | ⟨t1, t2, t3⟩
            · rw [t1, t2] at HT
              have HtMO := Lib.hid tMO
              have HtSI := Lib.hid tSI
              have hlen1 : first + (Wr.length : Int) = La + 1 := HLa.out.symm
              rw [hlen1] at HT
              clear t1 t2 tMO tSI hlen1
              go_upto_region 19 with (go_at_call 9; refine HT.out.mono ?_; rintro e w3 ⟨rfl, own3, bm3, c3, bw3, bp3, nm3, s3, r3, pps3, pbuf3, hP, hU, hn⟩
                                      have HP3 := Lib.hid hP
                                      have HU3 := Lib.hid (HU2.out.then (hU.mono (fun _ h => .inl h)))
                                      have HR3 := Lib.hid (HR2.out.upd (by decide) hU)
                                      have HX3 := Lib.hid (hU.blk HX2.out (by rw [Hbx.out]; decide))
                                      have Hnm3 := Lib.hid (show nm3 ≤ 2 * k + 2 by have := Hnm.out; omega)
                                      clear hP hU hn)
              obtain ⟨own4, hown4⟩ : ∃ own4 : Nat → Nat, own4 = fresh own3 w3 2 := ⟨_, rfl⟩
              have hu4 : ∀ T, Upd T own3 w3 own4 w3 := fun T => by rw [hown4]; exact ⟨rfl, rfl, rfl, Nat.le_refl _, fun k hk _ => fresh_old hk, fun _ _ _ => rfl⟩
              have HP4 := Lib.hid (HP3.out.upd (T := fun _ => False) (fun e => e) (fun e => e) (hu4 _))
              have HR4 := Lib.hid (HR3.out.upd (T := fun _ => False) (fun e => e) (hu4 _))
              have HU4 := Lib.hid (HU3.out.then (hu4 _))
              have Hfr : Hid (∀ k, w3.heap.size ≤ k → own4 k = 2) := Lib.hid (fun k hk => by rw [hown4]; exact fresh_new hk)
              have Hl4 := Lib.hid (show (Wr ++ [(0 : Int)]).length = Wr.length + 1 by simp)
              clear hu4 hown4 HP3 HR3 HU3
              go_wp2_with (at_builtin; refine Kd.R_append (Kd.int .i64) (w0 := w3) 0 rfl (.tmp 74) (.tmp 75) 23 3 (.int .i64 0) 8 rfl Try.underlying23 info3 rfl (show 0 < 1 by decide) (by decide) (.slice Aw Wr.length cw) Wr (0 : Int) _ (fun k_ => own4 k_ = 2) (fun k_ => own4 k_ = 2 ∧ some k_ ≠ (Value.slice Aw Wr.length cw).ownBlock) rfl rfl ?hp (fun _ hk => hk) Hfr.out HR4.out (Below.refl _ _) (Nat.zero_le _) ?hl ?_
                           case hp => rfl
                           case hl => have h1 := HLa.out; have h2 := La1; omega
                           intro v1 w5 O5 B5 hg5 hat5
                           have HR5 := Lib.hid O5
                           have hu5 : Upd (· = 2) own4 w3 own4 w5 := Upd.grown hg5 (fun k hk => HR4.out.1 k hk)
                           have HP5 := Lib.hid (HP4.out.upd (T := (· = 2)) (by decide) (by decide) hu5)
                           have HU5 := Lib.hid (HU4.out.then (hu5.mono (fun _ h => .inr h)))
                           clear O5 B5 hg5 hat5 hu5)
              go_meet
              exact ⟨S.trig.2.2, Wr ++ [0], La + 1, own4, bm3, c3, bw3, bp3, nm3, s3, r3, pps3, pbuf3, rfl, ⟨by omega, by have h1 := HtSI.out.nx; have h2 := HP5.out.ok.x2; have h3 := HLa.out; rw [newW_len] at h1; omega⟩, Lib.hid (by rw [Hl4.out]; have := HLa.out; omega), HP5, HtMO, Lib.hid (by rw [Hl4.out]; exact HtSI.out), HR5, HU5, Hnm3⟩
            · have k2 : (S.trig.2.1 == 0) = false := by simpa using t1
              rw [t2, t3] at HT
              generalize S.trig.2.1 = E at *
              clear t1 t2 t3
              go_wp2_with (go_at_call 9; refine HT.out.mono ?_; rintro e w3 ⟨rfl, own3, bm3, c3, bw3, bp3, nm3, s3, r3, pps3, pbuf3, hP, hU, hn⟩
                           have HP3 := Lib.hid hP
                           have HU3 := Lib.hid (HU2.out.then (hU.mono (fun _ h => .inl h)))
                           have HR3 := Lib.hid (HR2.out.upd (by decide) hU)
                           have HX3 := Lib.hid (hU.blk HX2.out (by rw [Hbx.out]; decide))
                           have Hnm3 := Lib.hid (show nm3 ≤ 2 * k + 2 by have := Hnm.out; omega)
                           clear hP hU hn)
              go_meet
              have hs := HSI.out.same S rfl rfl rfl HSI.out.b0
              exact ⟨S, Wr, La, own3, bm3, c3, bw3, bp3, nm3, s3, r3, pps3, pbuf3, rfl, ⟨La0, La1⟩, HLa, HP3, Lib.hid hs.1, Lib.hid hs.2, HR3, HU3, Hnm3⟩
          have k1 : (o.f0 == 1) = false := by simpa using h1
          clear h1
          by_cases h1 : o.f0 = 2
          · have k2 : (o.f0 == 2) = true := by simpa using h1
            have HH := Lib.hid (hand10 own1 w2 g 1 S bm c bw bp nm s r pps pbuf HP2.out (by decide) id o.f4 o.f5 A6 c6 A7 c7 A8 c8 D6.out D7.out D8.out (by have := Hpo.out; omega))
            have hs := Lib.hid (HSI.out.hand id o.f4 o.f5)
            clear h1
            go_wp2_with (go_at_call 10; refine HH.out.mono ?_; rintro e w3 ⟨rfl, own3, bm3, c3, bw3, bp3, nm3, s3, r3, pps3, pbuf3, hP, hU, hn⟩
                         have HP3 := Lib.hid hP
                         have HU3 := Lib.hid (HU2.out.then (hU.mono (fun _ h => .inl h)))
                         have HR3 := Lib.hid (HR2.out.upd (by decide) hU)
                         have HX3 := Lib.hid (hU.blk HX2.out (by rw [Hbx.out]; decide))
                         have Hnm3 := Lib.hid (show nm3 ≤ 2 * k + 2 by have := Hnm.out; omega)
                         clear hP hU hn)
            go_meet
            exact ⟨_, Wr, La, own3, bm3, c3, bw3, bp3, nm3, s3, r3, pps3, pbuf3, rfl, ⟨La0, La1⟩, HLa, HP3, Lib.hid hs.out.1, Lib.hid hs.out.2, HR3, HU3, Hnm3⟩
          have k2 : (o.f0 == 2) = false := by simpa using h1
          clear h1
          by_cases h1 : o.f0 = 3
          · have k3 : (o.f0 == 3) = true := by simpa using h1
            have HH := Lib.hid (pick12 own1 w2 g 1 S bm c bw bp nm s r pps pbuf HP2.out (by decide) (by have := Hnm.out; have := hm20; unfold maxLen; omega))
            clear h1
            go_wp2_with (go_at_call 12; refine HH.out.mono ?_; intro e w3 hq
                         obtain ⟨v, S', rfl, ⟨own3, bm3, c3, bw3, bp3, nm3, s3, r3, pps3, pbuf3, hP, hU, hn⟩, hMO, hSI⟩ := pick_any hq HSI.out HP2.out.ok
                         have HMO := Lib.hid hMO
                         have HSI' := Lib.hid hSI
                         clear hMO hSI hq
                         have HP3 := Lib.hid hP
                         have HU3 := Lib.hid (HU2.out.then (hU.mono (fun _ h => .inl h)))
                         have HR3 := Lib.hid (HR2.out.upd (by decide) hU)
                         have HX3 := Lib.hid (hU.blk HX2.out (by rw [Hbx.out]; decide))
                         have Hnm3 := Lib.hid (show nm3 ≤ 2 * k + 2 by have := Hnm.out; omega)
                         clear hP hU hn)
            go_meet
            exact ⟨S', Wr, La, own3, bm3, c3, bw3, bp3, nm3, s3, r3, pps3, pbuf3, rfl, ⟨La0, La1⟩, HLa, HP3, HMO, HSI', HR3, HU3, Hnm3⟩
          have k3 : (o.f0 == 3) = false := by simpa using h1
          clear h1
          by_cases h1 : o.f0 = 4
          · have k4 : (o.f0 == 4) = true := by simpa using h1
            have HH := Lib.hid (abort22 own1 w2 g 1 S bm c bw bp nm s r pps pbuf HP2.out (by decide) (by have := Hnm.out; have := hm20; unfold maxLen; omega))
            have hs := Lib.hid (HSI.out.abort HP2.out.ok)
            clear h1
            go_wp2_with (go_at_call 22; refine HH.out.mono ?_; rintro e w3 ⟨rfl, own3, bm3, c3, bw3, bp3, nm3, s3, r3, pps3, pbuf3, hP, hU, hn⟩
                         have HP3 := Lib.hid hP
                         have HU3 := Lib.hid (HU2.out.then (hU.mono (fun _ h => .inl h)))
                         have HR3 := Lib.hid (HR2.out.upd (by decide) hU)
                         have HX3 := Lib.hid (hU.blk HX2.out (by rw [Hbx.out]; decide))
                         have Hnm3 := Lib.hid (show nm3 ≤ 2 * k + 2 by have := Hnm.out; omega)
                         clear hP hU hn)
            go_meet
            exact ⟨_, Wr, La, own3, bm3, c3, bw3, bp3, nm3, s3, r3, pps3, pbuf3, rfl, ⟨La0, La1⟩, HLa, HP3, Lib.hid hs.out.1, Lib.hid hs.out.2, HR3, HU3, Hnm3⟩
          have k4 : (o.f0 == 4) = false := by simpa using h1
          clear h1
          by_cases h1 : o.f0 = 5
          · have k5 : (o.f0 == 5) = true := by simpa using h1
            clear h1
            by_cases h2 : S.f id = 2
            · skip
              have HS1 := Lib.hid (status14 own1 w2 g 1 S bm c bw bp nm s r pps pbuf HP2.out (by decide) id HID.out)
              have HS2 := Lib.hid (settle23 own1 w2 g 1 S bm c bw bp nm s r pps pbuf HP2.out (by decide) id o.f6 HID.out (by have := Hnm.out; have := hm20; unfold maxLen; omega))
              have Hse := Lib.hid (HSI.out.settle id o.f6)
              rw [h2] at HS1
              have h1 : (S.settle id o.f6).1 = 0 := by unfold PS.settle; rw [if_pos h2]
              rw [h1] at HS2
              have Hsay := Lib.hid (settle_says id o.f6 h2)
              clear h1 h2
              go_upto_region 29 with (first
                | (go_at_call 14; refine HS1.out.mono ?_; rintro e w3 ⟨rfl, rfl⟩)
                | (go_at_call 23; refine HS2.out.mono ?_; rintro e w4 ⟨rfl, own4, bm4, c4, bw4, bp4, nm4, s4, r4, pps4, pbuf4, hP, hU, hn⟩
                   have HP4 := Lib.hid hP
                   have HU4 := Lib.hid (HU2.out.then (hU.mono (fun _ h => .inl h)))
                   have HR4 := Lib.hid (HR2.out.upd (by decide) hU)
                   have HX4 := Lib.hid (hU.blk HX2.out (by rw [Hbx.out]; decide))
                   have Hnm4 := Lib.hid (show nm4 ≤ 2 * k + 2 by have := Hnm.out; omega)
                   clear hP hU hn))
              have p9 : w4.cell? ⟨bx, 9, none⟩ = some (.bool o.f6) := blk_at HX4.out 9 rfl
              have HST2 : Hid (∀ W : World, W = w4.drew → Calls Try.prog 14 #[.pointer (some ⟨g, 0, none⟩), .int .i64 id] W fun e w' => e = .returned (.int .i64 (if o.f6 then 3 else 4)) ∧ W = w') := Lib.hid (fun W hW => by
                have h1 := status14 own4 w4.drew g 1 _ bm4 c4 bw4 bp4 nm4 s4 r4 pps4 pbuf4 HP4.out.drew (by decide) id HID.out
                rw [Hsay.out] at h1
                rw [hW]
                exact h1)
              generalize hb6 : o.f6 = b6 at HST2 p9
              have Hb6 := Lib.hid hb6
              clear hb6
              cases b6 with
              | true =>
                simp only [if_true, Bool.false_eq_true, if_false] at HST2
                refine start_ (n := 18) (S := (fun w' => w'.cell? ⟨bx, 9, none⟩ = some (.bool true))) (ds := []) #[false, false, false, false, false, false, false, false, false, false, false, false, false, false, false, false, false, false] (by kernel_rfl) rfl rfl (show w4.drew.cell? _ = _ from p9) (fun hHeld => ?_)
                obtain ⟨W, hWq⟩ : ∃ W, W = w4.drew := ⟨_, rfl⟩
                have HWd := Lib.hid hWq
                rw [← hWq] at hHeld ⊢
                refine pure_ (i := 0) (N := some 104) (v := ?_) (a' := ?_) #[true, false, false, false, false, false, false, false, false, false, false, false, false, false, false, false, false, false] rfl rfl (by kernel_rfl) (fun _ _ _ h => h) (Or.inl ⟨by rfl, ?_⟩) ?_ ?_
                rotate_left
                · intro w'
                  go_simp
                  with_reducible rfl
                rotate_left
                · simp only [Act.put, List.setIfInBounds_toArray, List.set_cons_zero, List.set_cons_succ]
                  rfl
                refine pure_ (i := 1) (N := some 105) (v := ?_) (a' := ?_) #[true, true, false, false, false, false, false, false, false, false, false, false, false, false, false, false, false, false] rfl rfl (by kernel_rfl) (fun _ _ _ h => h) (Or.inl ⟨by rfl, ?_⟩) ?_ ?_
                rotate_left
                · intro w'
                  go_simp
                  with_reducible rfl
                rotate_left
                · simp only [Act.put, List.setIfInBounds_toArray, List.set_cons_zero, List.set_cons_succ]
                  rfl
                refine pure_ (i := 2) (N := some 106) (v := ?_) (a' := ?_) #[true, true, true, false, false, false, false, false, false, false, false, false, false, false, false, false, false, false] rfl rfl (by kernel_rfl) (fun _ _ _ h => h) (Or.inl ⟨by rfl, ?_⟩) ?_ ?_
                rotate_left
                · intro w'
                  go_simp
                  with_reducible rfl
                rotate_left
                · simp only [Act.put, List.setIfInBounds_toArray, List.set_cons_zero, List.set_cons_succ]
                  rfl
                refine pure_ (i := 3) (N := some 107) (v := ?_) (a' := ?_) #[true, true, true, true, false, false, false, false, false, false, false, false, false, false, false, false, false, false] rfl rfl (by kernel_rfl) (fun _ _ _ h => h) (Or.inl ⟨by rfl, ?_⟩) ?_ ?_
                rotate_left
                · intro w'
                  go_simp
                  with_reducible rfl
                rotate_left
                · simp only [Act.put, List.setIfInBounds_toArray, List.set_cons_zero, List.set_cons_succ]
                  rfl
                refine pure_ (i := 4) (N := some 108) (v := ?_) (a' := ?_) #[true, true, true, true, true, false, false, false, false, false, false, false, false, false, false, false, false, false] rfl rfl (by kernel_rfl) (fun _ _ _ h => h) (Or.inl ⟨by rfl, ?_⟩) ?_ ?_
                rotate_left
                · intro w'
                  go_simp
                  with_reducible rfl
                rotate_left
                · simp only [Act.put, List.setIfInBounds_toArray, List.set_cons_zero, List.set_cons_succ]
                  rfl
                refine pure_ (i := 5) (N := some 109) (v := ?_) (a' := ?_) #[true, true, true, true, true, true, false, false, false, false, false, false, false, false, false, false, false, false] rfl rfl (by kernel_rfl) (fun _ _ _ h => h) (Or.inl ⟨by rfl, ?_⟩) ?_ ?_
                rotate_left
                · intro w'
                  go_simp
                  with_reducible rfl
                rotate_left
                · simp only [Act.put, List.setIfInBounds_toArray, List.set_cons_zero, List.set_cons_succ]
                  rfl
                refine pure_ (i := 6) (N := some 110) (v := ?_) (a' := ?_) #[true, true, true, true, true, true, true, false, false, false, false, false, false, false, false, false, false, false] rfl rfl (by kernel_rfl) (fun _ _ _ h => h) (Or.inl ⟨by rfl, ?_⟩) ?_ ?_
                rotate_left
                · intro w'
                  go_simp
                  with_reducible rfl
                rotate_left
                · simp only [Act.put, List.setIfInBounds_toArray, List.set_cons_zero, List.set_cons_succ]
                  rfl
                refine pure_ (i := 7) (N := some 111) (v := ?_) (a' := ?_) #[true, true, true, true, true, true, true, true, false, false, false, false, false, false, false, false, false, false] rfl rfl (by kernel_rfl) (fun _ _ _ h => h) (Or.inl ⟨by rfl, ?_⟩) ?_ ?_
                rotate_left
                · intro w'
                  go_simp
                  with_reducible rfl
                rotate_left
                · simp only [Act.put, List.setIfInBounds_toArray, List.set_cons_zero, List.set_cons_succ]
                  rfl
                refine pure_ (i := 8) (N := some 112) (v := ?_) (a' := ?_) #[true, true, true, true, true, true, true, true, true, false, false, false, false, false, false, false, false, false] rfl rfl (by kernel_rfl) (fun _ _ _ h => h) (Or.inl ⟨by rfl, ?_⟩) ?_ ?_
                rotate_left
                · intro w'
                  go_simp
                  with_reducible rfl
                rotate_left
                · simp only [Act.put, List.setIfInBounds_toArray, List.set_cons_zero, List.set_cons_succ]
                  rfl
                refine pure_ (i := 9) (N := some 113) (v := ?_) (a' := ?_) #[true, true, true, true, true, true, true, true, true, true, false, false, false, false, false, false, false, false] rfl rfl (by kernel_rfl) (fun _ _ _ h => h) (Or.inl ⟨by rfl, ?_⟩) ?_ ?_
                rotate_left
                · intro w'
                  go_simp
                  with_reducible rfl
                rotate_left
                · simp only [Act.put, List.setIfInBounds_toArray, List.set_cons_zero, List.set_cons_succ]
                  rfl
                refine take_ (i := 10) (N := some 114) (v := ?_) (a' := ?_) #[true, true, true, true, true, true, true, true, true, true, true, false, false, false, false, false, false, false] rfl rfl (by kernel_rfl) (fun _ _ _ h => h) (Or.inl ⟨by rfl, ?_⟩) hHeld ?_ ?_
                rotate_left
                · intro w' s0
                  go_simp
                  with_reducible rfl
                rotate_left
                · simp only [Act.put, List.setIfInBounds_toArray, List.set_cons_zero, List.set_cons_succ]
                  rfl
                refine pure_ (i := 11) (N := some 115) (v := ?_) (a' := ?_) #[true, true, true, true, true, true, true, true, true, true, true, true, false, false, false, false, false, false] rfl rfl (by kernel_rfl) (fun _ _ _ h => h) (Or.inl ⟨by rfl, ?_⟩) ?_ ?_
                rotate_left
                · intro w'
                  go_simp
                  with_reducible rfl
                rotate_left
                · simp only [Act.put, List.setIfInBounds_toArray, List.set_cons_zero, List.set_cons_succ]
                  rfl
                refine pure_ (i := 12) (N := some 116) (v := ?_) (a' := ?_) #[true, true, true, true, true, true, true, true, true, true, true, true, true, false, false, false, false, false] rfl rfl (by kernel_rfl) (fun _ _ _ h => h) (Or.inl ⟨by rfl, ?_⟩) ?_ ?_
                rotate_left
                · intro w'
                  go_simp
                  with_reducible rfl
                rotate_left
                · simp only [Act.put, List.setIfInBounds_toArray, List.set_cons_zero, List.set_cons_succ]
                  rfl
                refine one_ (i := 13) (N := some 117) #[true, true, true, true, true, true, true, true, true, true, true, true, true, true, false, false, false, false] rfl rfl (by kernel_rfl) (by decide) (fun K hK => ?_)
                refine goes_ Try.func14 (by kernel_rfl) rfl #[.pointer (some ⟨g, 0, none⟩), .int .i64 id] (by rfl) rfl rfl (by simp only [List.map_toArray, List.map_cons, List.map_nil]; rfl) ?_
                refine (HST2.out W HWd.out).mono ?_
                rintro e w9 ⟨rfl, rfl⟩
                refine ⟨_, rfl, ?_⟩
                refine hK.out _ _ hHeld (fun hHeld => ?_)
                clear hK K
                refine norm_ (a' := ?_) ?_ ?_
                rotate_left
                · show Act.put _ (some 117) _ = _
                  simp only [Act.put, List.setIfInBounds_toArray, List.set_cons_zero, List.set_cons_succ]
                  rfl
                refine pure_ (i := 14) (N := some 118) (v := ?_) (a' := ?_) #[true, true, true, true, true, true, true, true, true, true, true, true, true, true, true, false, false, false] rfl rfl (by kernel_rfl) (fun _ _ _ h => h) (Or.inl ⟨by rfl, ?_⟩) ?_ ?_
                rotate_left
                · intro w'
                  go_simp
                  with_reducible rfl
                rotate_left
                · simp only [Act.put, List.setIfInBounds_toArray, List.set_cons_zero, List.set_cons_succ]
                  rfl
                refine pure_ (i := 15) (N := some 119) (v := ?_) (a' := ?_) #[true, true, true, true, true, true, true, true, true, true, true, true, true, true, true, true, false, false] rfl rfl (by kernel_rfl) (fun _ _ _ h => h) (Or.inl ⟨by rfl, ?_⟩) ?_ ?_
                rotate_left
                · intro w'
                  go_simp
                  with_reducible rfl
                rotate_left
                · simp only [Act.put, List.setIfInBounds_toArray, List.set_cons_zero, List.set_cons_succ]
                  rfl
                refine pure_ (i := 16) (N := some 120) (v := ?_) (a' := ?_) #[true, true, true, true, true, true, true, true, true, true, true, true, true, true, true, true, true, false] rfl rfl (by kernel_rfl) (fun _ _ _ h => h) (Or.inl ⟨by rfl, ?_⟩) ?_ ?_
                rotate_left
                · intro w'
                  go_simp
                  with_reducible rfl
                rotate_left
                · simp only [Act.put, List.setIfInBounds_toArray, List.set_cons_zero, List.set_cons_succ]
                  rfl
                refine pure_ (i := 17) (N := some 121) (v := ?_) (a' := ?_) #[true, true, true, true, true, true, true, true, true, true, true, true, true, true, true, true, true, true] rfl rfl (by kernel_rfl) (fun _ _ _ h => h) (Or.inl ⟨by rfl, ?_⟩) ?_ ?_
                rotate_left
                · intro w'
                  go_simp
                  with_reducible rfl
                rotate_left
                · simp only [Act.put, List.setIfInBounds_toArray, List.set_cons_zero, List.set_cons_succ]
                  rfl
                refine done_ (by kernel_rfl) ?_
                subst hWq
                go_wp2_with (fail)
                go_meet
                have hu : Upd (fun _ => False) own4 w4 own4 w4.drew := Upd.drew
                exact ⟨_, Wr, La, own4, bm4, c4, bw4, bp4, nm4, s4, r4, pps4, pbuf4, rfl, ⟨La0, La1⟩, HLa, Lib.hid HP4.out.drew, Lib.hid Hse.out.1, Lib.hid Hse.out.2, Lib.hid (HR4.out.upd (fun e => e) hu), Lib.hid (HU4.out.then (hu.mono (fun _ h => h.elim))), Hnm4⟩
              | false =>
                simp only [if_true, Bool.false_eq_true, if_false] at HST2
                refine start_ (n := 18) (S := (fun w' => w'.cell? ⟨bx, 9, none⟩ = some (.bool false))) (ds := []) #[false, false, false, false, false, false, false, false, false, false, false, false, false, false, false, false, false, false] (by kernel_rfl) rfl rfl (show w4.drew.cell? _ = _ from p9) (fun hHeld => ?_)
                obtain ⟨W, hWq⟩ : ∃ W, W = w4.drew := ⟨_, rfl⟩
                have HWd := Lib.hid hWq
                rw [← hWq] at hHeld ⊢
                refine pure_ (i := 0) (N := some 104) (v := ?_) (a' := ?_) #[true, false, false, false, false, false, false, false, false, false, false, false, false, false, false, false, false, false] rfl rfl (by kernel_rfl) (fun _ _ _ h => h) (Or.inl ⟨by rfl, ?_⟩) ?_ ?_
                rotate_left
                · intro w'
                  go_simp
                  with_reducible rfl
                rotate_left
                · simp only [Act.put, List.setIfInBounds_toArray, List.set_cons_zero, List.set_cons_succ]
                  rfl
                refine pure_ (i := 1) (N := some 105) (v := ?_) (a' := ?_) #[true, true, false, false, false, false, false, false, false, false, false, false, false, false, false, false, false, false] rfl rfl (by kernel_rfl) (fun _ _ _ h => h) (Or.inl ⟨by rfl, ?_⟩) ?_ ?_
                rotate_left
                · intro w'
                  go_simp
                  with_reducible rfl
                rotate_left
                · simp only [Act.put, List.setIfInBounds_toArray, List.set_cons_zero, List.set_cons_succ]
                  rfl
                refine pure_ (i := 2) (N := some 106) (v := ?_) (a' := ?_) #[true, true, true, false, false, false, false, false, false, false, false, false, false, false, false, false, false, false] rfl rfl (by kernel_rfl) (fun _ _ _ h => h) (Or.inl ⟨by rfl, ?_⟩) ?_ ?_
                rotate_left
                · intro w'
                  go_simp
                  with_reducible rfl
                rotate_left
                · simp only [Act.put, List.setIfInBounds_toArray, List.set_cons_zero, List.set_cons_succ]
                  rfl
                refine pure_ (i := 3) (N := some 107) (v := ?_) (a' := ?_) #[true, true, true, true, false, false, false, false, false, false, false, false, false, false, false, false, false, false] rfl rfl (by kernel_rfl) (fun _ _ _ h => h) (Or.inl ⟨by rfl, ?_⟩) ?_ ?_
                rotate_left
                · intro w'
                  go_simp
                  with_reducible rfl
                rotate_left
                · simp only [Act.put, List.setIfInBounds_toArray, List.set_cons_zero, List.set_cons_succ]
                  rfl
                refine pure_ (i := 4) (N := some 108) (v := ?_) (a' := ?_) #[true, true, true, true, true, false, false, false, false, false, false, false, false, false, false, false, false, false] rfl rfl (by kernel_rfl) (fun _ _ _ h => h) (Or.inl ⟨by rfl, ?_⟩) ?_ ?_
                rotate_left
                · intro w'
                  go_simp
                  with_reducible rfl
                rotate_left
                · simp only [Act.put, List.setIfInBounds_toArray, List.set_cons_zero, List.set_cons_succ]
                  rfl
                refine pure_ (i := 5) (N := some 109) (v := ?_) (a' := ?_) #[true, true, true, true, true, true, false, false, false, false, false, false, false, false, false, false, false, false] rfl rfl (by kernel_rfl) (fun _ _ _ h => h) (Or.inl ⟨by rfl, ?_⟩) ?_ ?_
                rotate_left
                · intro w'
                  go_simp
                  with_reducible rfl
                rotate_left
                · simp only [Act.put, List.setIfInBounds_toArray, List.set_cons_zero, List.set_cons_succ]
                  rfl
                refine pure_ (i := 6) (N := some 110) (v := ?_) (a' := ?_) #[true, true, true, true, true, true, true, false, false, false, false, false, false, false, false, false, false, false] rfl rfl (by kernel_rfl) (fun _ _ _ h => h) (Or.inl ⟨by rfl, ?_⟩) ?_ ?_
                rotate_left
                · intro w'
                  go_simp
                  with_reducible rfl
                rotate_left
                · simp only [Act.put, List.setIfInBounds_toArray, List.set_cons_zero, List.set_cons_succ]
                  rfl
                refine pure_ (i := 7) (N := some 111) (v := ?_) (a' := ?_) #[true, true, true, true, true, true, true, true, false, false, false, false, false, false, false, false, false, false] rfl rfl (by kernel_rfl) (fun _ _ _ h => h) (Or.inl ⟨by rfl, ?_⟩) ?_ ?_
                rotate_left
                · intro w'
                  go_simp
                  with_reducible rfl
                rotate_left
                · simp only [Act.put, List.setIfInBounds_toArray, List.set_cons_zero, List.set_cons_succ]
                  rfl
                refine pure_ (i := 8) (N := some 112) (v := ?_) (a' := ?_) #[true, true, true, true, true, true, true, true, true, false, false, false, false, false, false, false, false, false] rfl rfl (by kernel_rfl) (fun _ _ _ h => h) (Or.inl ⟨by rfl, ?_⟩) ?_ ?_
                rotate_left
                · intro w'
                  go_simp
                  with_reducible rfl
                rotate_left
                · simp only [Act.put, List.setIfInBounds_toArray, List.set_cons_zero, List.set_cons_succ]
                  rfl
                refine pure_ (i := 9) (N := some 113) (v := ?_) (a' := ?_) #[true, true, true, true, true, true, true, true, true, true, false, false, false, false, false, false, false, false] rfl rfl (by kernel_rfl) (fun _ _ _ h => h) (Or.inl ⟨by rfl, ?_⟩) ?_ ?_
                rotate_left
                · intro w'
                  go_simp
                  with_reducible rfl
                rotate_left
                · simp only [Act.put, List.setIfInBounds_toArray, List.set_cons_zero, List.set_cons_succ]
                  rfl
                refine take_ (i := 10) (N := some 114) (v := ?_) (a' := ?_) #[true, true, true, true, true, true, true, true, true, true, true, false, false, false, false, false, false, false] rfl rfl (by kernel_rfl) (fun _ _ _ h => h) (Or.inl ⟨by rfl, ?_⟩) hHeld ?_ ?_
                rotate_left
                · intro w' s0
                  go_simp
                  with_reducible rfl
                rotate_left
                · simp only [Act.put, List.setIfInBounds_toArray, List.set_cons_zero, List.set_cons_succ]
                  rfl
                refine pure_ (i := 11) (N := some 115) (v := ?_) (a' := ?_) #[true, true, true, true, true, true, true, true, true, true, true, true, false, false, false, false, false, false] rfl rfl (by kernel_rfl) (fun _ _ _ h => h) (Or.inl ⟨by rfl, ?_⟩) ?_ ?_
                rotate_left
                · intro w'
                  go_simp
                  with_reducible rfl
                rotate_left
                · simp only [Act.put, List.setIfInBounds_toArray, List.set_cons_zero, List.set_cons_succ]
                  rfl
                refine pure_ (i := 12) (N := some 116) (v := ?_) (a' := ?_) #[true, true, true, true, true, true, true, true, true, true, true, true, true, false, false, false, false, false] rfl rfl (by kernel_rfl) (fun _ _ _ h => h) (Or.inl ⟨by rfl, ?_⟩) ?_ ?_
                rotate_left
                · intro w'
                  go_simp
                  with_reducible rfl
                rotate_left
                · simp only [Act.put, List.setIfInBounds_toArray, List.set_cons_zero, List.set_cons_succ]
                  rfl
                refine one_ (i := 13) (N := some 117) #[true, true, true, true, true, true, true, true, true, true, true, true, true, true, false, false, false, false] rfl rfl (by kernel_rfl) (by decide) (fun K hK => ?_)
                refine goes_ Try.func14 (by kernel_rfl) rfl #[.pointer (some ⟨g, 0, none⟩), .int .i64 id] (by rfl) rfl rfl (by simp only [List.map_toArray, List.map_cons, List.map_nil]; rfl) ?_
                refine (HST2.out W HWd.out).mono ?_
                rintro e w9 ⟨rfl, rfl⟩
                refine ⟨_, rfl, ?_⟩
                refine hK.out _ _ hHeld (fun hHeld => ?_)
                clear hK K
                refine norm_ (a' := ?_) ?_ ?_
                rotate_left
                · show Act.put _ (some 117) _ = _
                  simp only [Act.put, List.setIfInBounds_toArray, List.set_cons_zero, List.set_cons_succ]
                  rfl
                refine pure_ (i := 14) (N := some 118) (v := ?_) (a' := ?_) #[true, true, true, true, true, true, true, true, true, true, true, true, true, true, true, false, false, false] rfl rfl (by kernel_rfl) (fun _ _ _ h => h) (Or.inl ⟨by rfl, ?_⟩) ?_ ?_
                rotate_left
                · intro w'
                  go_simp
                  with_reducible rfl
                rotate_left
                · simp only [Act.put, List.setIfInBounds_toArray, List.set_cons_zero, List.set_cons_succ]
                  rfl
                refine pure_ (i := 15) (N := some 119) (v := ?_) (a' := ?_) #[true, true, true, true, true, true, true, true, true, true, true, true, true, true, true, true, false, false] rfl rfl (by kernel_rfl) (fun _ _ _ h => h) (Or.inl ⟨by rfl, ?_⟩) ?_ ?_
                rotate_left
                · intro w'
                  go_simp
                  with_reducible rfl
                rotate_left
                · simp only [Act.put, List.setIfInBounds_toArray, List.set_cons_zero, List.set_cons_succ]
                  rfl
                refine pure_ (i := 16) (N := some 120) (v := ?_) (a' := ?_) #[true, true, true, true, true, true, true, true, true, true, true, true, true, true, true, true, true, false] rfl rfl (by kernel_rfl) (fun _ _ _ h => h) (Or.inl ⟨by rfl, ?_⟩) ?_ ?_
                rotate_left
                · intro w'
                  go_simp
                  with_reducible rfl
                rotate_left
                · simp only [Act.put, List.setIfInBounds_toArray, List.set_cons_zero, List.set_cons_succ]
                  rfl
                refine pure_ (i := 17) (N := some 121) (v := ?_) (a' := ?_) #[true, true, true, true, true, true, true, true, true, true, true, true, true, true, true, true, true, true] rfl rfl (by kernel_rfl) (fun _ _ _ h => h) (Or.inl ⟨by rfl, ?_⟩) ?_ ?_
                rotate_left
                · intro w'
                  go_simp
                  with_reducible rfl
                rotate_left
                · simp only [Act.put, List.setIfInBounds_toArray, List.set_cons_zero, List.set_cons_succ]
                  rfl
                refine done_ (by kernel_rfl) ?_
                subst hWq
                go_wp2_with (fail)
                go_meet
                have hu : Upd (fun _ => False) own4 w4 own4 w4.drew := Upd.drew
                exact ⟨_, Wr, La, own4, bm4, c4, bw4, bp4, nm4, s4, r4, pps4, pbuf4, rfl, ⟨La0, La1⟩, HLa, Lib.hid HP4.out.drew, Lib.hid Hse.out.1, Lib.hid Hse.out.2, Lib.hid (HR4.out.upd (fun e => e) hu), Lib.hid (HU4.out.then (hu.mono (fun _ h => h.elim))), Hnm4⟩
            · skip
              have HS1 := Lib.hid (status14 own1 w2 g 1 S bm c bw bp nm s r pps pbuf HP2.out (by decide) id HID.out)
              have HS2 := Lib.hid (settle23 own1 w2 g 1 S bm c bw bp nm s r pps pbuf HP2.out (by decide) id o.f6 HID.out (by have := Hnm.out; have := hm20; unfold maxLen; omega))
              have Hse := Lib.hid (HSI.out.settle id o.f6)
              have k2 : (S.f id == 2) = false := by simpa using h2
              have h1 : (S.settle id o.f6).1 = 147 := by unfold PS.settle; rw [if_neg h2]
              rw [h1] at HS2
              generalize S.f id = x at HS1 k2
              clear h1 h2
              go_upto_region 29 with (first
                | (go_at_call 14; refine HS1.out.mono ?_; rintro e w3 ⟨rfl, rfl⟩)
                | (go_at_call 23; refine HS2.out.mono ?_; rintro e w4 ⟨rfl, own4, bm4, c4, bw4, bp4, nm4, s4, r4, pps4, pbuf4, hP, hU, hn⟩
                   have HP4 := Lib.hid hP
                   have HU4 := Lib.hid (HU2.out.then (hU.mono (fun _ h => .inl h)))
                   have HR4 := Lib.hid (HR2.out.upd (by decide) hU)
                   have HX4 := Lib.hid (hU.blk HX2.out (by rw [Hbx.out]; decide))
                   have Hnm4 := Lib.hid (show nm4 ≤ 2 * k + 2 by have := Hnm.out; omega)
                   clear hP hU hn))
              have p9 : w4.cell? ⟨bx, 9, none⟩ = some (.bool o.f6) := blk_at HX4.out 9 rfl
              generalize o.f6 = b6 at p9
              refine start_ (n := 18) (S := (fun w' => w'.cell? ⟨bx, 9, none⟩ = some (.bool b6))) (ds := []) #[false, false, false, false, false, false, false, false, false, false, false, false, false, false, false, false, false, false] (by kernel_rfl) rfl rfl (show w4.drew.cell? _ = _ from p9) (fun hHeld => ?_)
              obtain ⟨W, hWq⟩ : ∃ W, W = w4.drew := ⟨_, rfl⟩
              have HWd := Lib.hid hWq
              rw [← hWq] at hHeld ⊢
              refine pure_ (i := 0) (N := some 104) (v := ?_) (a' := ?_) #[true, false, false, false, false, false, false, false, false, false, false, false, false, false, false, false, false, false] rfl rfl (by kernel_rfl) (fun _ _ _ h => h) (Or.inl ⟨by rfl, ?_⟩) ?_ ?_
              rotate_left
              · intro w'
                go_simp
                with_reducible rfl
              rotate_left
              · simp only [Act.put, List.setIfInBounds_toArray, List.set_cons_zero, List.set_cons_succ]
                rfl
              refine pure_ (i := 1) (N := some 105) (v := ?_) (a' := ?_) #[true, true, false, false, false, false, false, false, false, false, false, false, false, false, false, false, false, false] rfl rfl (by kernel_rfl) (fun _ _ _ h => h) (Or.inl ⟨by rfl, ?_⟩) ?_ ?_
              rotate_left
              · intro w'
                go_simp
                with_reducible rfl
              rotate_left
              · simp only [Act.put, List.setIfInBounds_toArray, List.set_cons_zero, List.set_cons_succ]
                rfl
              refine pure_ (i := 2) (N := some 106) (v := ?_) (a' := ?_) #[true, true, true, false, false, false, false, false, false, false, false, false, false, false, false, false, false, false] rfl rfl (by kernel_rfl) (fun _ _ _ h => h) (Or.inl ⟨by rfl, ?_⟩) ?_ ?_
              rotate_left
              · intro w'
                go_simp
                with_reducible rfl
              rotate_left
              · simp only [Act.put, List.setIfInBounds_toArray, List.set_cons_zero, List.set_cons_succ]
                rfl
              refine pure_ (i := 3) (N := some 107) (v := ?_) (a' := ?_) #[true, true, true, true, false, false, false, false, false, false, false, false, false, false, false, false, false, false] rfl rfl (by kernel_rfl) (fun _ _ _ h => h) (Or.inl ⟨by rfl, ?_⟩) ?_ ?_
              rotate_left
              · intro w'
                go_simp
                with_reducible rfl
              rotate_left
              · simp only [Act.put, List.setIfInBounds_toArray, List.set_cons_zero, List.set_cons_succ]
                rfl
              refine pure_ (i := 4) (N := some 108) (v := ?_) (a' := ?_) #[true, true, true, true, true, false, false, false, false, false, false, false, false, false, false, false, false, false] rfl rfl (by kernel_rfl) (fun _ _ _ h => h) (Or.inl ⟨by rfl, ?_⟩) ?_ ?_
              rotate_left
              · intro w'
                go_simp
                with_reducible rfl
              rotate_left
              · simp only [Act.put, List.setIfInBounds_toArray, List.set_cons_zero, List.set_cons_succ]
                rfl
              refine pure_ (i := 5) (N := some 109) (v := ?_) (a' := ?_) #[true, true, true, true, true, true, false, false, false, false, false, false, false, false, false, false, false, false] rfl rfl (by kernel_rfl) (fun _ _ _ h => h) (Or.inl ⟨by rfl, ?_⟩) ?_ ?_
              rotate_left
              · intro w'
                go_simp
                with_reducible rfl
              rotate_left
              · simp only [Act.put, List.setIfInBounds_toArray, List.set_cons_zero, List.set_cons_succ]
                rfl
              refine pure_ (i := 6) (N := some 110) (v := ?_) (a' := ?_) #[true, true, true, true, true, true, true, false, false, false, false, false, false, false, false, false, false, false] rfl rfl (by kernel_rfl) (fun _ _ _ h => h) (Or.inl ⟨by rfl, ?_⟩) ?_ ?_
              rotate_left
              · intro w'
                go_simp
                with_reducible rfl
              rotate_left
              · simp only [Act.put, List.setIfInBounds_toArray, List.set_cons_zero, List.set_cons_succ]
                rfl
              refine pure_ (i := 7) (N := some 111) (v := ?_) (a' := ?_) #[true, true, true, true, true, true, true, true, false, false, false, false, false, false, false, false, false, false] rfl rfl (by kernel_rfl) (fun _ _ _ h => h) (Or.inl ⟨by rfl, ?_⟩) ?_ ?_
              rotate_left
              · intro w'
                go_simp
                with_reducible rfl
              rotate_left
              · simp only [Act.put, List.setIfInBounds_toArray, List.set_cons_zero, List.set_cons_succ]
                rfl
              refine pure_ (i := 8) (N := some 112) (v := ?_) (a' := ?_) #[true, true, true, true, true, true, true, true, true, false, false, false, false, false, false, false, false, false] rfl rfl (by kernel_rfl) (fun _ _ _ h => h) (Or.inl ⟨by rfl, ?_⟩) ?_ ?_
              rotate_left
              · intro w'
                go_simp
                with_reducible rfl
              rotate_left
              · simp only [Act.put, List.setIfInBounds_toArray, List.set_cons_zero, List.set_cons_succ]
                rfl
              refine pure_ (i := 9) (N := some 113) (v := undef) (a' := ?_) #[true, true, true, true, true, true, true, true, true, true, false, false, false, false, false, false, false, false] rfl rfl (by kernel_rfl) (fun _ _ _ h => h) (Or.inr ⟨by rfl, rfl⟩) ?_ ?_
              rotate_left
              · simp only [Act.put, List.setIfInBounds_toArray, List.set_cons_zero, List.set_cons_succ]
                rfl
              refine pure_ (i := 10) (N := some 114) (v := undef) (a' := ?_) #[true, true, true, true, true, true, true, true, true, true, true, false, false, false, false, false, false, false] rfl rfl (by kernel_rfl) (fun _ _ _ h => h) (Or.inr ⟨by rfl, rfl⟩) ?_ ?_
              rotate_left
              · simp only [Act.put, List.setIfInBounds_toArray, List.set_cons_zero, List.set_cons_succ]
                rfl
              refine pure_ (i := 11) (N := some 115) (v := undef) (a' := ?_) #[true, true, true, true, true, true, true, true, true, true, true, true, false, false, false, false, false, false] rfl rfl (by kernel_rfl) (fun _ _ _ h => h) (Or.inr ⟨by rfl, rfl⟩) ?_ ?_
              rotate_left
              · simp only [Act.put, List.setIfInBounds_toArray, List.set_cons_zero, List.set_cons_succ]
                rfl
              refine pure_ (i := 12) (N := some 116) (v := undef) (a' := ?_) #[true, true, true, true, true, true, true, true, true, true, true, true, true, false, false, false, false, false] rfl rfl (by kernel_rfl) (fun _ _ _ h => h) (Or.inr ⟨by rfl, rfl⟩) ?_ ?_
              rotate_left
              · simp only [Act.put, List.setIfInBounds_toArray, List.set_cons_zero, List.set_cons_succ]
                rfl
              refine pure_ (i := 13) (N := some 117) (v := undef) (a' := ?_) #[true, true, true, true, true, true, true, true, true, true, true, true, true, true, false, false, false, false] rfl rfl (by kernel_rfl) (fun _ _ _ h => h) (Or.inr ⟨by rfl, rfl⟩) ?_ ?_
              rotate_left
              · simp only [Act.put, List.setIfInBounds_toArray, List.set_cons_zero, List.set_cons_succ]
                rfl
              refine pure_ (i := 14) (N := some 118) (v := undef) (a' := ?_) #[true, true, true, true, true, true, true, true, true, true, true, true, true, true, true, false, false, false] rfl rfl (by kernel_rfl) (fun _ _ _ h => h) (Or.inr ⟨by rfl, rfl⟩) ?_ ?_
              rotate_left
              · simp only [Act.put, List.setIfInBounds_toArray, List.set_cons_zero, List.set_cons_succ]
                rfl
              refine pure_ (i := 15) (N := some 119) (v := undef) (a' := ?_) #[true, true, true, true, true, true, true, true, true, true, true, true, true, true, true, true, false, false] rfl rfl (by kernel_rfl) (fun _ _ _ h => h) (Or.inr ⟨by rfl, rfl⟩) ?_ ?_
              rotate_left
              · simp only [Act.put, List.setIfInBounds_toArray, List.set_cons_zero, List.set_cons_succ]
                rfl
              refine pure_ (i := 16) (N := some 120) (v := ?_) (a' := ?_) #[true, true, true, true, true, true, true, true, true, true, true, true, true, true, true, true, true, false] rfl rfl (by kernel_rfl) (fun _ _ _ h => h) (Or.inl ⟨by rfl, ?_⟩) ?_ ?_
              rotate_left
              · intro w'
                go_simp
                with_reducible rfl
              rotate_left
              · simp only [Act.put, List.setIfInBounds_toArray, List.set_cons_zero, List.set_cons_succ]
                rfl
              refine pure_ (i := 17) (N := some 121) (v := ?_) (a' := ?_) #[true, true, true, true, true, true, true, true, true, true, true, true, true, true, true, true, true, true] rfl rfl (by kernel_rfl) (fun _ _ _ h => h) (Or.inl ⟨by rfl, ?_⟩) ?_ ?_
              rotate_left
              · intro w'
                go_simp
                with_reducible rfl
              rotate_left
              · simp only [Act.put, List.setIfInBounds_toArray, List.set_cons_zero, List.set_cons_succ]
                rfl
              refine done_ (by kernel_rfl) ?_
              subst hWq
              go_wp2_with (fail)
              go_meet
              have hu : Upd (fun _ => False) own4 w4 own4 w4.drew := Upd.drew
              exact ⟨_, Wr, La, own4, bm4, c4, bw4, bp4, nm4, s4, r4, pps4, pbuf4, rfl, ⟨La0, La1⟩, HLa, Lib.hid HP4.out.drew, Lib.hid Hse.out.1, Lib.hid Hse.out.2, Lib.hid (HR4.out.upd (fun e => e) hu), Lib.hid (HU4.out.then (hu.mono (fun _ h => h.elim))), Hnm4⟩
          · have k5 : (o.f0 == 5) = false := by simpa using h1
            clear h1
            go_wp2_with (fail)
            go_meet
            have hs := HSI.out.same S rfl rfl rfl HSI.out.b0
            exact ⟨S, Wr, La, own1, bm, c, bw, bp, nm, s, r, pps, pbuf, rfl, ⟨La0, La1⟩, HLa, HP2, Lib.hid hs.1, Lib.hid hs.2, HR2, HU2, Lib.hid (by have := Hnm.out; omega)⟩
        case rest =>
        clear p0 p4 p5 p6 p7 p8 p9 HP2 HR2 HU2 HSI HLa Hnm La0 La1
        obtain ⟨S, Wr, La, own3, bm, c, bw, bp, nm, s, r, pps, pbuf, rfl, ⟨La0, La1⟩, HLa, HP, HMO, HSI, HR, HU, Hnm⟩ := hcut
        have HV := Lib.hid (moved24 own3 wc g S bm c bw bp nm s r pps pbuf HP.out first Wr _ HR.out HMO.out f1 (by have := HLa.out; omega))
        go_wp2_with (go_at_call 24; refine HV.out.mono ?_; rintro e w9 ⟨rfl, own9, HP9, HR9, hU9⟩
                     have HU9 := Lib.hid (HU.out.then hU9.out)
                     clear hU9)
        go_roundw
        case rel => exact ⟨k + 1, S, newW first S Wr.length, La, own9, bm, c, bw, bp, nm, s, r, pps, pbuf, by omega, by go_num, rfl, ⟨La0, La1⟩, Lib.hid (by rw [newW_len]; exact HLa.out), HP9, HSI, HR9, HU9, Lib.hid (by have := Hnm.out; omega)⟩
        case measure => simp [intOf]; omega
      · go_wp2_with (fail)
        go_meet
        exact ⟨S, Wr, La, ownr, bm, c, bw, bp, nm, s, r, pps, pbuf, rfl, ⟨La0, La1⟩, HLa, HP, HSI, HR, HU, Lib.hid (by have := Hnm.out; omega)⟩
  case rest =>
  clear HP2 HSa HUa
  obtain ⟨S, Wr, La, own3, bm, c, bw, bp, nm, s, r, pps, pbuf, rfl, ⟨La0, La1⟩, HLa, HP, HSI, HR, HU, Hnm⟩ := hcut
  obtain ⟨Aw, cw, hv⟩ := Kd.R_slice HR.out
  subst hv
  have HT := Lib.hid (trigger9 own3 wc g 1 S bm c bw bp nm s r pps pbuf HP.out (by decide) (by have := Hnm.out; have := hm20; unfold maxLen; omega))
  have k8 : (La - first + 1 == (Wr.length : Int)) = true := by simp only [beq_iff_eq]; have := HLa.out; omega
  obtain ⟨q, hq⟩ : ∃ q, q = Wr.length := ⟨_, rfl⟩
  rw [← hq] at k8 ⊢
  clear hq
  rcases HSI.out.trig with ⟨t1, t2, -, -⟩ | ⟨t1, t2, t3⟩
  · rw [t1, t2] at HT
    have hlen1 : first + (Wr.length : Int) = La + 1 := HLa.out.symm
    rw [hlen1] at HT
    clear t1 t2 hlen1
    go_wp2_with (go_at_call 9; refine HT.out.mono ?_; rintro e w4 ⟨rfl, own4, bm4, c4, bw4, bp4, nm4, s4, r4, pps4, pbuf4, hP, hU, hn⟩
                 have HU4 := Lib.hid (HU.out.then (hU.mono (fun _ h => .inl h)))
                 clear hP hU hn)
    go_ret
    exact ⟨by rfl, HU4.out.below (Nat.le_refl _) (fun k _ h => by rcases h with h | h <;> exact absurd h (by decide))⟩
  · have k2 : (S.trig.2.1 == 0) = false := by simpa using t1
    have k3 : ((0 : Int) == La + 1) = false := by simp only [beq_eq_false_iff_ne]; omega
    rw [t2] at HT
    generalize S.trig.2.1 = E at *
    clear t1 t2 t3
    go_wp2_with (go_at_call 9; refine HT.out.mono ?_; rintro e w4 ⟨rfl, own4, bm4, c4, bw4, bp4, nm4, s4, r4, pps4, pbuf4, hP, hU, hn⟩
                 have HU4 := Lib.hid (HU.out.then (hU.mono (fun _ h => .inl h)))
                 clear hP hU hn)
    go_ret
    exact ⟨by rfl, HU4.out.below (Nat.le_refl _) (fun k _ h => by rcases h with h | h <;> exact absurd h (by decide))⟩
end Go.Proofs.Ytcbaiplamaopeaa.PPostShots
