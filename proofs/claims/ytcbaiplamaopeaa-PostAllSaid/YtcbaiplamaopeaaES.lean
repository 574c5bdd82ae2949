/- PostAll, walked. -/
import Derived.Test.YtcbaiplamaopeaaER
import Derived.Test.YtcbaiplamaopeaaSI
namespace Go.Proofs.Ytcbaiplamaopeaa.PPostShots
open Go.RowKit Go.Conc Go.Proofs.YtcbaiplamaopeaaW.PrintWords Go.Proofs.YtcbaiplamaopeaaW.PrintLast Go.Proofs.Ytcbaiplamaopeaa.PPost
set_option linter.unusedVariables false
set_option linter.unusedSimpArgs false

theorem PB_new (n : Nat) (first sum : Int) : PB (RA.new n first sum) := fun x hx => by
  have h : x ∈ ([] : List S40) := hx
  cases h
/-- One coordinator and the document's one, at any time. -/
def Both (own : Nat → Nat) (w : World) (g gr tg tr nm : Nat) : Prop :=
  ∃ (S : PS) (R : RA) (bm c bw bp nm' s r : Nat) (pps : List PP) (pbuf : List (Nat × PP)) (A : Option Addr) (cr : Nat) (rows : List SC) (rps : List PP),
    PostAt own w g tg S bm c bw bp nm' s r pps pbuf ∧ RefAt own w gr tr R A cr rows rps ∧ RR S R ∧ PB R ∧ nm' ≤ nm
theorem Both.upd {own own' : Nat → Nat} {w w' : World} {g gr tg tr nm : Nat} {T : Nat → Prop} (h : Both own w g gr tg tr nm) (h0 : ¬ T 0) (h1 : ¬ T tg) (h2 : ∀ t, tr ≤ t → t ≤ tr + 3 → ¬ T t) (hu : Upd T own w own' w') : Both own' w' g gr tg tr nm := by
  obtain ⟨S, R, bm, c, bw, bp, nm', s, r, pps, pbuf, A, cr, rows, rps, hP, hR, hRR, hPB, hn⟩ := h
  exact ⟨S, R, bm, c, bw, bp, nm', s, r, pps, pbuf, A, cr, rows, rps, hP.upd h0 h1 hu, hR.upd h0 h2 hu, hRR, hPB, hn⟩
theorem Both.more {own : Nat → Nat} {w : World} {g gr tg tr nm nm' : Nat} (h : Both own w g gr tg tr nm) (hn : nm ≤ nm') : Both own w g gr tg tr nm' := by
  obtain ⟨S, R, bm, c, bw, bp, nm1, s, r, pps, pbuf, A, cr, rows, rps, hP, hR, hRR, hPB, h1⟩ := h
  exact ⟨S, R, bm, c, bw, bp, nm1, s, r, pps, pbuf, A, cr, rows, rps, hP, hR, hRR, hPB, Nat.le_trans h1 hn⟩
theorem Both.plays {own : Nat → Nat} {w : World} {g gr tg tr nm : Nat} (h : Both own w g gr tg tr nm) (h0 : tg ≠ 0) (htr : tg < tr) (hnm : nm + 1 < maxLen) (o : S57) (last : Int) (A6 : Option Addr) (c6 : Nat) (A7 : Option Addr) (c7 : Nat) (A8 : Option Addr) (c8 : Nat) (hC6 : StC k103 own w A6 o.f5.f0.f1.length o.f5.f0.f1) (hl6 : o.f5.f0.f1.length ≤ c6) (hC7 : StC (Kd.slice 83 k83) own w A7 o.f5.f1.length o.f5.f1) (hl7 : o.f5.f1.length ≤ c7) (hC8 : StC k83 own w A8 o.f5.f2.length o.f5.f2) (hl8 : o.f5.f2.length ≤ c8) (hp : partsP o.f5 ≤ 10000) (hwf : wfI o.f3) :
    Calls Try.prog 20 #[.pointer (some ⟨g, 0, none⟩), .pointer (some ⟨gr, 0, none⟩), .agg #[.int .i64 o.f0, .bool o.f1, .bool o.f2, .int .i64 o.f3, .int .i64 o.f4, .int .i64 o.f5.f0.f0, .slice A6 o.f5.f0.f1.length c6, .slice A7 o.f5.f1.length c7, .slice A8 o.f5.f2.length c8, .bool o.f6], .int .i64 last] w fun e w' => ∃ last', e = .returned (.tuple #[.int .i64 last', .bool true]) ∧ ∃ own', Both own' w' g gr tg tr (nm + 2) ∧ Upd (fun t => t = tg ∨ Tg tr t) own w own' w' := by
  obtain ⟨S, R, bm, c, bw, bp, nm', s, r, pps, pbuf, A, cr, rows, rps, hP, hR, hRR, hPB, hn⟩ := h
  refine (plays20 own w g gr tg tr S R bm c bw bp nm' s r pps pbuf A cr rows rps hP hR hRR hPB h0 htr (by omega) o last A6 c6 A7 c7 A8 c8 hC6 hl6 hC7 hl7 hC8 hl8 hp hwf).mono ?_
  rintro e w' ⟨last', rfl, own', S', R', bm2, c2, bw2, bp2, nm2, s2, r2, pps2, pbuf2, A2, cr2, rows2, rps2, hP2, hR2, hRR2, hPB2, hU2, hn2⟩
  exact ⟨last', rfl, own', ⟨S', R', bm2, c2, bw2, bp2, nm2, s2, r2, pps2, pbuf2, A2, cr2, rows2, rps2, hP2.out, hR2.out, hRR2.out, hPB2.out, by omega⟩, hU2.out⟩
set_option maxRecDepth 100000 in
set_option maxHeartbeats 16000000 in
theorem postAll_vv (n : Nat) (first : Int) (n1 : 1 ≤ n) (n2 : n ≤ 12) (f1 : 1 ≤ first) (f2 : first ≤ 10000) (sum : Int) (n' : Nat) (first' : Int) (n1' : 1 ≤ n') (n2' : n' ≤ 12) (f1' : 1 ≤ first') (f2' : first' ≤ 10000) (sum' : Int) (l : List S57) (A : Option Addr) (cl : Nat) (w : World) (hC : Kd.C k57 w A l.length l) (hcl : l.length ≤ cl) (hl : ∀ o ∈ l, lenO o) (hb : l.length ≤ 20000000000000) :
    Calls Try.prog 5 #[.int .i64 n, .int .i64 first, .int .u32 sum, .int .i64 n', .int .i64 first', .int .u32 sum', .slice A l.length cl] w fun e w' => e = .returned (.bool true) ∧ Below w.heap.size w w' := by
  have HF := Lib.hid (few15 l A cl w hC hl)
  obtain ⟨m, hm⟩ : ∃ m, m = l.length := ⟨_, rfl⟩
  have Hm := Lib.hid hm
  have HC := Lib.hid hC
  have HLN := Lib.hid hl
  have hm20 : m ≤ 20000000000000 := by omega
  rw [← hm] at HF ⊢
  clear hC hcl hl hb hm
  go_enter Try.func5, Try.ntmps5
  go_upto_if 29 with (go_at_call 15; refine HF.out.mono ?_; rintro e w0 ⟨bb, rfl, hbb, hB0⟩)
  clear HF
  cases bb with
  | false =>
    go_wp2_with (fail)
    go_ret
    exact ⟨rfl, hB0⟩
  | true =>
  have HB0 := Lib.hid hB0
  have HSM := Lib.hid (hbb rfl)
  clear hbb hB0
  go_upto_region 4 with (go_at_call 8; refine (new8_ok n first sum (fun _ => 0) w0 1 (by decide) n1 n2 f1 f2).mono ?_; rintro e w1 ⟨ga, ownw1, bmw1, cw1, bww1, bpw1, ppsw1, rfl, HPw1, HUw1, -, -⟩)
  go_upto_region 5 with (go_at_call 19; refine (new19_ok n first sum ownw1 w1 10 n1 n2 f1 f2).mono ?_; rintro e w2 ⟨ra, ownw2, rfl, HRw2, HUw2⟩)
  go_upto_region 6 with (go_at_call 8; refine (new8_ok n' first' sum' ownw2 w2 5 (by decide) n1' n2' f1' f2').mono ?_; rintro e w3 ⟨gb, ownw3, bmw3, cw3, bww3, bpw3, ppsw3, rfl, HPw3, HUw3, -, -⟩)
  go_upto_region 7 with (go_at_call 19; refine (new19_ok n' first' sum' ownw3 w3 20 n1' n2' f1' f2').mono ?_; rintro e w4 ⟨rb, ownw4, rfl, HRw4, HUw4⟩)
  have HU0 : Hid (Upd (fun t_ => t_ ≠ 0) (fun _ => 0) w ownw4 w4) := Lib.hid (((((Upd.of_below' HB0.out (fun _ _ => rfl) : Upd (fun t_ => t_ ≠ 0) (fun _ => 0) w (fun _ => 0) w0).then (HUw1.out.mono (fun _ h => h.elim))).then (HUw2.out.mono (fun _ h => h.elim))).then (HUw3.out.mono (fun _ h => h.elim))).then (HUw4.out.mono (fun _ h => h.elim)))
  have HA0 : Hid (Both ownw4 w4 ga ra 1 10 0) := Lib.hid ⟨_, _, _, _, _, _, _, _, _, _, _, _, _, _, _, (((HPw1.out.upd (T := fun _ => False) (fun e => e) (fun e => e) HUw2.out).upd (T := fun _ => False) (fun e => e) (fun e => e) HUw3.out).upd (T := fun _ => False) (fun e => e) (fun e => e) HUw4.out), ((HRw2.out.upd (T := fun _ => False) (fun e => e) (fun _ _ _ e => e) HUw3.out).upd (T := fun _ => False) (fun e => e) (fun _ _ _ e => e) HUw4.out), RR.new n first sum, PB_new n first sum, Nat.le_refl _⟩
  have HBb0 : Hid (Both ownw4 w4 gb rb 5 20 0) := Lib.hid ⟨_, _, _, _, _, _, _, _, _, _, _, _, _, _, _, (HPw3.out.upd (T := fun _ => False) (fun e => e) (fun e => e) HUw4.out), HRw4.out, RR.new n' first' sum', PB_new n' first' sum', Nat.le_refl _⟩
  clear HB0
  go_wp2_with (fail)
  go_loopw [23, 24, 25, 26] (fun v23 v24 v25 v26 wr => ∃ (k : Nat) (ownr : Nat → Nat) (la lb : Int), k ≤ m ∧ v26 = .int .i64 k ∧ v25 = .bool true ∧ v23 = .int .i64 la ∧ v24 = .int .i64 lb ∧ Hid (Both ownr wr ga ra 1 10 (2 * k)) ∧ Hid (Both ownr wr gb rb 5 20 (2 * k)) ∧ Hid (Upd (fun t_ => t_ ≠ 0) (fun _ => 0) w ownr wr)) (fun _ _ _ v26 _ => m - (intOf v26).toNat)
  case atStart => exact ⟨0, ownw4, _, _, Nat.zero_le _, rfl, rfl, rfl, rfl, HA0, HBb0, HU0⟩
  case round =>
    clear HU0 HA0 HBb0
    obtain ⟨k, ownr, la, lb, hk, rfl, rfl, rfl, rfl, HA, HBb, HU⟩ := hrel
    by_cases hlt : k < m
    · obtain ⟨ad, A6, c6, A7, c7, A8, c8, hA, e0, e1, e2, e3, e4, e5, e6, e7, e8, e9, hl6, hC6, hl7, hC7, hl8, hC8⟩ := at_T57 HC.out (k : Int) (by omega) (by rw [← Hm.out]; omega)
      have hmem : rd_T57 l (k : Int) ∈ l := getD_mem _ _ _ (by rw [Int.toNat_natCast, ← Hm.out]; exact hlt)
      generalize rd_T57 l (k : Int) = o at *
      rw [Int.toNat_natCast] at e0 e1 e2 e3 e4 e5 e6 e7 e8 e9
      have hz1 : ownr (ad.add (k * 10)).block = 0 := HU.out.same _ (World.block_lt_of_cell? w _ e0) (fun h => h rfl)
      have HC6 := Lib.hid ((StC.came (own := fun _ => 0) hC6 (fun _ _ => rfl)).upd (S := fun t_ => t_ ≠ 0) (fun h => h rfl) HU.out)
      have HC7 := Lib.hid ((StC.came (own := fun _ => 0) hC7 (fun _ _ => rfl)).upd (S := fun t_ => t_ ≠ 0) (fun h => h rfl) HU.out)
      have HC8 := Lib.hid ((StC.came (own := fun _ => 0) hC8 (fun _ _ => rfl)).upd (S := fun t_ => t_ ≠ 0) (fun h => h rfl) HU.out)
      replace e0 := HU.out.cell e0 (fun h => h rfl)
      replace e1 := HU.out.cell e1 (fun h => h rfl)
      replace e2 := HU.out.cell e2 (fun h => h rfl)
      replace e3 := HU.out.cell e3 (fun h => h rfl)
      replace e4 := HU.out.cell e4 (fun h => h rfl)
      replace e5 := HU.out.cell e5 (fun h => h rfl)
      replace e6 := HU.out.cell e6 (fun h => h rfl)
      replace e7 := HU.out.cell e7 (fun h => h rfl)
      replace e8 := HU.out.cell e8 (fun h => h rfl)
      replace e9 := HU.out.cell e9 (fun h => h rfl)
      subst hA
      clear hC6 hC7 hC8
      by_cases hsec : o.f1 = true
      · rw [hsec] at e1
        have HST := HBb.out.plays (by decide) (by decide) (by unfold maxLen; omega) o lb A6 c6 A7 c7 A8 c8 HC6.out hl6 HC7.out hl7 HC8.out hl8 (HSM.out o hmem) (HLN.out o hmem).2
        rw [hsec] at HST
        clear hmem hl6 hl7 hl8 hsec
        go_wp2_with (go_at_call 20; refine HST.mono ?_; rintro e w5 ⟨last', rfl, own5, hB5, hU5⟩
                     have HU5 := Lib.hid (HU.out.then (hU5.mono (fun t_ ht => by unfold Tg at ht; omega)))
                     have HN5 := Lib.hid hB5
                     have HO5 := Lib.hid (HA.out.upd (T := fun t_ => t_ = 5 ∨ Tg 20 t_) (by unfold Tg; omega) (by unfold Tg; omega) (fun t_ h1 h2 h3 => by unfold Tg at h3; omega) hU5)
                     have g1 : w5.cell? ⟨(ad.add (k * 10)).block, (ad.add (k * 10)).off + 1, none⟩ = some (.bool true) := hU5.cell e1 (by rw [hz1]; unfold Tg; omega)
                     clear hB5 hU5)
        go_roundw
        case rel => exact ⟨k + 1, own5, la, last', by omega, by go_num, rfl, rfl, rfl, Lib.hid (HO5.out.more (by omega)), Lib.hid (HN5.out.more (by omega)), HU5⟩
        case measure => simp [intOf]; omega
      · have hsec2 : o.f1 = false := by simpa using hsec
        rw [hsec2] at e1
        have HST := HA.out.plays (by decide) (by decide) (by unfold maxLen; omega) o la A6 c6 A7 c7 A8 c8 HC6.out hl6 HC7.out hl7 HC8.out hl8 (HSM.out o hmem) (HLN.out o hmem).2
        rw [hsec2] at HST
        clear hmem hl6 hl7 hl8 hsec
        go_wp2_with (go_at_call 20; refine HST.mono ?_; rintro e w5 ⟨last', rfl, own5, hB5, hU5⟩
                     have HU5 := Lib.hid (HU.out.then (hU5.mono (fun t_ ht => by unfold Tg at ht; omega)))
                     have HN5 := Lib.hid hB5
                     have HO5 := Lib.hid (HBb.out.upd (T := fun t_ => t_ = 1 ∨ Tg 10 t_) (by unfold Tg; omega) (by unfold Tg; omega) (fun t_ h1 h2 h3 => by unfold Tg at h3; omega) hU5)
                     have g1 : w5.cell? ⟨(ad.add (k * 10)).block, (ad.add (k * 10)).off + 1, none⟩ = some (.bool false) := hU5.cell e1 (by rw [hz1]; unfold Tg; omega)
                     clear hB5 hU5)
        go_roundw
        case rel => exact ⟨k + 1, own5, last', lb, by omega, by go_num, rfl, rfl, rfl, Lib.hid (HN5.out.more (by omega)), Lib.hid (HO5.out.more (by omega)), HU5⟩
        case measure => simp [intOf]; omega
    · go_wp2_with (fail)
      go_ret
      exact ⟨rfl, HU.out.below (Nat.le_refl _) (fun _ _ h => h rfl)⟩
set_option maxRecDepth 100000 in
set_option maxHeartbeats 16000000 in
theorem postAll_vn (n : Nat) (first : Int) (n1 : 1 ≤ n) (n2 : n ≤ 12) (f1 : 1 ≤ first) (f2 : first ≤ 10000) (sum : Int) (tb first' : Int) (hnb : tb < 1 ∨ 12 < tb ∨ first' < 1 ∨ 10000 < first') (sum' : Int) (l : List S57) (A : Option Addr) (cl : Nat) (w : World) (hC : Kd.C k57 w A l.length l) (hcl : l.length ≤ cl) (hl : ∀ o ∈ l, lenO o) (hb : l.length ≤ 20000000000000) :
    Calls Try.prog 5 #[.int .i64 n, .int .i64 first, .int .u32 sum, .int .i64 tb, .int .i64 first', .int .u32 sum', .slice A l.length cl] w fun e w' => e = .returned (.bool true) ∧ Below w.heap.size w w' := by
  have HF := Lib.hid (few15 l A cl w hC hl)
  obtain ⟨m, hm⟩ : ∃ m, m = l.length := ⟨_, rfl⟩
  have Hm := Lib.hid hm
  have HC := Lib.hid hC
  have HLN := Lib.hid hl
  have hm20 : m ≤ 20000000000000 := by omega
  rw [← hm] at HF ⊢
  clear hC hcl hl hb hm
  go_enter Try.func5, Try.ntmps5
  go_upto_if 29 with (go_at_call 15; refine HF.out.mono ?_; rintro e w0 ⟨bb, rfl, hbb, hB0⟩)
  clear HF
  cases bb with
  | false =>
    go_wp2_with (fail)
    go_ret
    exact ⟨rfl, hB0⟩
  | true =>
  have HB0 := Lib.hid hB0
  have HSM := Lib.hid (hbb rfl)
  clear hbb hB0
  go_upto_region 4 with (go_at_call 8; refine (new8_ok n first sum (fun _ => 0) w0 1 (by decide) n1 n2 f1 f2).mono ?_; rintro e w1 ⟨ga, ownw1, bmw1, cw1, bww1, bpw1, ppsw1, rfl, HPw1, HUw1, -, -⟩)
  go_upto_region 5 with (go_at_call 19; refine (new19_ok n first sum ownw1 w1 10 n1 n2 f1 f2).mono ?_; rintro e w2 ⟨ra, ownw2, rfl, HRw2, HUw2⟩)
  go_upto_region 6 with (go_at_call 8; refine (new8_no tb first' sum' w2 hnb).mono ?_; rintro e w3 ⟨rfl, rfl⟩)
  go_upto_region 7 with (go_at_call 19; refine (new19_no tb first' sum' w2 hnb).mono ?_; rintro e w4 ⟨rfl, rfl⟩)
  have HU0 : Hid (Upd (fun t_ => t_ ≠ 0) (fun _ => 0) w ownw2 w2) := Lib.hid (((Upd.of_below' HB0.out (fun _ _ => rfl) : Upd (fun t_ => t_ ≠ 0) (fun _ => 0) w (fun _ => 0) w0).then (HUw1.out.mono (fun _ h => h.elim))).then (HUw2.out.mono (fun _ h => h.elim)))
  have HA0 : Hid (Both ownw2 w2 ga ra 1 10 0) := Lib.hid ⟨_, _, _, _, _, _, _, _, _, _, _, _, _, _, _, (HPw1.out.upd (T := fun _ => False) (fun e => e) (fun e => e) HUw2.out), HRw2.out, RR.new n first sum, PB_new n first sum, Nat.le_refl _⟩
  clear HB0
  go_wp2_with (fail)
  go_loopw [23, 24, 25, 26] (fun v23 v24 v25 v26 wr => ∃ (k : Nat) (ownr : Nat → Nat) (la lb : Int), k ≤ m ∧ v26 = .int .i64 k ∧ v25 = .bool true ∧ v23 = .int .i64 la ∧ v24 = .int .i64 lb ∧ Hid (Both ownr wr ga ra 1 10 (2 * k)) ∧ Hid (Upd (fun t_ => t_ ≠ 0) (fun _ => 0) w ownr wr)) (fun _ _ _ v26 _ => m - (intOf v26).toNat)
  case atStart => exact ⟨0, ownw2, _, _, Nat.zero_le _, rfl, rfl, rfl, rfl, HA0, HU0⟩
  case round =>
    clear HU0 HA0
    obtain ⟨k, ownr, la, lb, hk, rfl, rfl, rfl, rfl, HA, HU⟩ := hrel
    by_cases hlt : k < m
    · obtain ⟨ad, A6, c6, A7, c7, A8, c8, hA, e0, e1, e2, e3, e4, e5, e6, e7, e8, e9, hl6, hC6, hl7, hC7, hl8, hC8⟩ := at_T57 HC.out (k : Int) (by omega) (by rw [← Hm.out]; omega)
      have hmem : rd_T57 l (k : Int) ∈ l := getD_mem _ _ _ (by rw [Int.toNat_natCast, ← Hm.out]; exact hlt)
      generalize rd_T57 l (k : Int) = o at *
      rw [Int.toNat_natCast] at e0 e1 e2 e3 e4 e5 e6 e7 e8 e9
      have hz1 : ownr (ad.add (k * 10)).block = 0 := HU.out.same _ (World.block_lt_of_cell? w _ e0) (fun h => h rfl)
      have HC6 := Lib.hid ((StC.came (own := fun _ => 0) hC6 (fun _ _ => rfl)).upd (S := fun t_ => t_ ≠ 0) (fun h => h rfl) HU.out)
      have HC7 := Lib.hid ((StC.came (own := fun _ => 0) hC7 (fun _ _ => rfl)).upd (S := fun t_ => t_ ≠ 0) (fun h => h rfl) HU.out)
      have HC8 := Lib.hid ((StC.came (own := fun _ => 0) hC8 (fun _ _ => rfl)).upd (S := fun t_ => t_ ≠ 0) (fun h => h rfl) HU.out)
      replace e0 := HU.out.cell e0 (fun h => h rfl)
      replace e1 := HU.out.cell e1 (fun h => h rfl)
      replace e2 := HU.out.cell e2 (fun h => h rfl)
      replace e3 := HU.out.cell e3 (fun h => h rfl)
      replace e4 := HU.out.cell e4 (fun h => h rfl)
      replace e5 := HU.out.cell e5 (fun h => h rfl)
      replace e6 := HU.out.cell e6 (fun h => h rfl)
      replace e7 := HU.out.cell e7 (fun h => h rfl)
      replace e8 := HU.out.cell e8 (fun h => h rfl)
      replace e9 := HU.out.cell e9 (fun h => h rfl)
      subst hA
      clear hC6 hC7 hC8
      by_cases hsec : o.f1 = true
      · rw [hsec] at e1
        clear hmem hl6 hl7 hl8
        go_wp2_with (fail)
        go_roundw
        case rel => exact ⟨k + 1, ownr, la, lb, by omega, by go_num, rfl, rfl, rfl, Lib.hid (HA.out.more (by omega)), HU⟩
        case measure => simp [intOf]; omega
      · have hsec2 : o.f1 = false := by simpa using hsec
        rw [hsec2] at e1
        have HST := HA.out.plays (by decide) (by decide) (by unfold maxLen; omega) o la A6 c6 A7 c7 A8 c8 HC6.out hl6 HC7.out hl7 HC8.out hl8 (HSM.out o hmem) (HLN.out o hmem).2
        rw [hsec2] at HST
        clear hmem hl6 hl7 hl8 hsec
        go_wp2_with (go_at_call 20; refine HST.mono ?_; rintro e w5 ⟨last', rfl, own5, hB5, hU5⟩
                     have HU5 := Lib.hid (HU.out.then (hU5.mono (fun t_ ht => by unfold Tg at ht; omega)))
                     have HN5 := Lib.hid hB5
                     have g1 : w5.cell? ⟨(ad.add (k * 10)).block, (ad.add (k * 10)).off + 1, none⟩ = some (.bool false) := hU5.cell e1 (by rw [hz1]; unfold Tg; omega)
                     clear hB5 hU5)
        go_roundw
        case rel => exact ⟨k + 1, own5, last', lb, by omega, by go_num, rfl, rfl, rfl, Lib.hid (HN5.out.more (by omega)), HU5⟩
        case measure => simp [intOf]; omega
    · go_wp2_with (fail)
      go_ret
      exact ⟨rfl, HU.out.below (Nat.le_refl _) (fun _ _ h => h rfl)⟩
set_option maxRecDepth 100000 in
set_option maxHeartbeats 16000000 in
theorem postAll_nv (ta first : Int) (hna : ta < 1 ∨ 12 < ta ∨ first < 1 ∨ 10000 < first) (sum : Int) (n' : Nat) (first' : Int) (n1' : 1 ≤ n') (n2' : n' ≤ 12) (f1' : 1 ≤ first') (f2' : first' ≤ 10000) (sum' : Int) (l : List S57) (A : Option Addr) (cl : Nat) (w : World) (hC : Kd.C k57 w A l.length l) (hcl : l.length ≤ cl) (hl : ∀ o ∈ l, lenO o) (hb : l.length ≤ 20000000000000) :
    Calls Try.prog 5 #[.int .i64 ta, .int .i64 first, .int .u32 sum, .int .i64 n', .int .i64 first', .int .u32 sum', .slice A l.length cl] w fun e w' => e = .returned (.bool true) ∧ Below w.heap.size w w' := by
  have HF := Lib.hid (few15 l A cl w hC hl)
  obtain ⟨m, hm⟩ : ∃ m, m = l.length := ⟨_, rfl⟩
  have Hm := Lib.hid hm
  have HC := Lib.hid hC
  have HLN := Lib.hid hl
  have hm20 : m ≤ 20000000000000 := by omega
  rw [← hm] at HF ⊢
  clear hC hcl hl hb hm
  go_enter Try.func5, Try.ntmps5
  go_upto_if 29 with (go_at_call 15; refine HF.out.mono ?_; rintro e w0 ⟨bb, rfl, hbb, hB0⟩)
  clear HF
  cases bb with
  | false =>
    go_wp2_with (fail)
    go_ret
    exact ⟨rfl, hB0⟩
  | true =>
  have HB0 := Lib.hid hB0
  have HSM := Lib.hid (hbb rfl)
  clear hbb hB0
  go_upto_region 4 with (go_at_call 8; refine (new8_no ta first sum w0 hna).mono ?_; rintro e w1 ⟨rfl, rfl⟩)
  go_upto_region 5 with (go_at_call 19; refine (new19_no ta first sum w0 hna).mono ?_; rintro e w2 ⟨rfl, rfl⟩)
  go_upto_region 6 with (go_at_call 8; refine (new8_ok n' first' sum' (fun _ => 0) w0 5 (by decide) n1' n2' f1' f2').mono ?_; rintro e w3 ⟨gb, ownw3, bmw3, cw3, bww3, bpw3, ppsw3, rfl, HPw3, HUw3, -, -⟩)
  go_upto_region 7 with (go_at_call 19; refine (new19_ok n' first' sum' ownw3 w3 20 n1' n2' f1' f2').mono ?_; rintro e w4 ⟨rb, ownw4, rfl, HRw4, HUw4⟩)
  have HU0 : Hid (Upd (fun t_ => t_ ≠ 0) (fun _ => 0) w ownw4 w4) := Lib.hid (((Upd.of_below' HB0.out (fun _ _ => rfl) : Upd (fun t_ => t_ ≠ 0) (fun _ => 0) w (fun _ => 0) w0).then (HUw3.out.mono (fun _ h => h.elim))).then (HUw4.out.mono (fun _ h => h.elim)))
  have HBb0 : Hid (Both ownw4 w4 gb rb 5 20 0) := Lib.hid ⟨_, _, _, _, _, _, _, _, _, _, _, _, _, _, _, (HPw3.out.upd (T := fun _ => False) (fun e => e) (fun e => e) HUw4.out), HRw4.out, RR.new n' first' sum', PB_new n' first' sum', Nat.le_refl _⟩
  clear HB0
  go_wp2_with (fail)
  go_loopw [23, 24, 25, 26] (fun v23 v24 v25 v26 wr => ∃ (k : Nat) (ownr : Nat → Nat) (la lb : Int), k ≤ m ∧ v26 = .int .i64 k ∧ v25 = .bool true ∧ v23 = .int .i64 la ∧ v24 = .int .i64 lb ∧ Hid (Both ownr wr gb rb 5 20 (2 * k)) ∧ Hid (Upd (fun t_ => t_ ≠ 0) (fun _ => 0) w ownr wr)) (fun _ _ _ v26 _ => m - (intOf v26).toNat)
  case atStart => exact ⟨0, ownw4, _, _, Nat.zero_le _, rfl, rfl, rfl, rfl, HBb0, HU0⟩
  case round =>
    clear HU0 HBb0
    obtain ⟨k, ownr, la, lb, hk, rfl, rfl, rfl, rfl, HBb, HU⟩ := hrel
    by_cases hlt : k < m
    · obtain ⟨ad, A6, c6, A7, c7, A8, c8, hA, e0, e1, e2, e3, e4, e5, e6, e7, e8, e9, hl6, hC6, hl7, hC7, hl8, hC8⟩ := at_T57 HC.out (k : Int) (by omega) (by rw [← Hm.out]; omega)
      have hmem : rd_T57 l (k : Int) ∈ l := getD_mem _ _ _ (by rw [Int.toNat_natCast, ← Hm.out]; exact hlt)
      generalize rd_T57 l (k : Int) = o at *
      rw [Int.toNat_natCast] at e0 e1 e2 e3 e4 e5 e6 e7 e8 e9
      have hz1 : ownr (ad.add (k * 10)).block = 0 := HU.out.same _ (World.block_lt_of_cell? w _ e0) (fun h => h rfl)
      have HC6 := Lib.hid ((StC.came (own := fun _ => 0) hC6 (fun _ _ => rfl)).upd (S := fun t_ => t_ ≠ 0) (fun h => h rfl) HU.out)
      have HC7 := Lib.hid ((StC.came (own := fun _ => 0) hC7 (fun _ _ => rfl)).upd (S := fun t_ => t_ ≠ 0) (fun h => h rfl) HU.out)
      have HC8 := Lib.hid ((StC.came (own := fun _ => 0) hC8 (fun _ _ => rfl)).upd (S := fun t_ => t_ ≠ 0) (fun h => h rfl) HU.out)
      replace e0 := HU.out.cell e0 (fun h => h rfl)
      replace e1 := HU.out.cell e1 (fun h => h rfl)
      replace e2 := HU.out.cell e2 (fun h => h rfl)
      replace e3 := HU.out.cell e3 (fun h => h rfl)
      replace e4 := HU.out.cell e4 (fun h => h rfl)
      replace e5 := HU.out.cell e5 (fun h => h rfl)
      replace e6 := HU.out.cell e6 (fun h => h rfl)
      replace e7 := HU.out.cell e7 (fun h => h rfl)
      replace e8 := HU.out.cell e8 (fun h => h rfl)
      replace e9 := HU.out.cell e9 (fun h => h rfl)
      subst hA
      clear hC6 hC7 hC8
      by_cases hsec : o.f1 = true
      · rw [hsec] at e1
        have HST := HBb.out.plays (by decide) (by decide) (by unfold maxLen; omega) o lb A6 c6 A7 c7 A8 c8 HC6.out hl6 HC7.out hl7 HC8.out hl8 (HSM.out o hmem) (HLN.out o hmem).2
        rw [hsec] at HST
        clear hmem hl6 hl7 hl8 hsec
        go_wp2_with (go_at_call 20; refine HST.mono ?_; rintro e w5 ⟨last', rfl, own5, hB5, hU5⟩
                     have HU5 := Lib.hid (HU.out.then (hU5.mono (fun t_ ht => by unfold Tg at ht; omega)))
                     have HN5 := Lib.hid hB5
                     have g1 : w5.cell? ⟨(ad.add (k * 10)).block, (ad.add (k * 10)).off + 1, none⟩ = some (.bool true) := hU5.cell e1 (by rw [hz1]; unfold Tg; omega)
                     clear hB5 hU5)
        go_roundw
        case rel => exact ⟨k + 1, own5, la, last', by omega, by go_num, rfl, rfl, rfl, Lib.hid (HN5.out.more (by omega)), HU5⟩
        case measure => simp [intOf]; omega
      · have hsec2 : o.f1 = false := by simpa using hsec
        rw [hsec2] at e1
        clear hmem hl6 hl7 hl8
        go_wp2_with (fail)
        go_roundw
        case rel => exact ⟨k + 1, ownr, la, lb, by omega, by go_num, rfl, rfl, rfl, Lib.hid (HBb.out.more (by omega)), HU⟩
        case measure => simp [intOf]; omega
    · go_wp2_with (fail)
      go_ret
      exact ⟨rfl, HU.out.below (Nat.le_refl _) (fun _ _ h => h rfl)⟩
set_option maxRecDepth 100000 in
set_option maxHeartbeats 16000000 in
theorem postAll_nn (ta first : Int) (hna : ta < 1 ∨ 12 < ta ∨ first < 1 ∨ 10000 < first) (sum : Int) (tb first' : Int) (hnb : tb < 1 ∨ 12 < tb ∨ first' < 1 ∨ 10000 < first') (sum' : Int) (l : List S57) (A : Option Addr) (cl : Nat) (w : World) (hC : Kd.C k57 w A l.length l) (hcl : l.length ≤ cl) (hl : ∀ o ∈ l, lenO o) (hb : l.length ≤ 20000000000000) :
    Calls Try.prog 5 #[.int .i64 ta, .int .i64 first, .int .u32 sum, .int .i64 tb, .int .i64 first', .int .u32 sum', .slice A l.length cl] w fun e w' => e = .returned (.bool true) ∧ Below w.heap.size w w' := by
  have HF := Lib.hid (few15 l A cl w hC hl)
  obtain ⟨m, hm⟩ : ∃ m, m = l.length := ⟨_, rfl⟩
  have Hm := Lib.hid hm
  have HC := Lib.hid hC
  have HLN := Lib.hid hl
  have hm20 : m ≤ 20000000000000 := by omega
  rw [← hm] at HF ⊢
  clear hC hcl hl hb hm
  go_enter Try.func5, Try.ntmps5
  go_upto_if 29 with (go_at_call 15; refine HF.out.mono ?_; rintro e w0 ⟨bb, rfl, hbb, hB0⟩)
  clear HF
  cases bb with
  | false =>
    go_wp2_with (fail)
    go_ret
    exact ⟨rfl, hB0⟩
  | true =>
  have HB0 := Lib.hid hB0
  have HSM := Lib.hid (hbb rfl)
  clear hbb hB0
  go_upto_region 4 with (go_at_call 8; refine (new8_no ta first sum w0 hna).mono ?_; rintro e w1 ⟨rfl, rfl⟩)
  go_upto_region 5 with (go_at_call 19; refine (new19_no ta first sum w0 hna).mono ?_; rintro e w2 ⟨rfl, rfl⟩)
  go_upto_region 6 with (go_at_call 8; refine (new8_no tb first' sum' w0 hnb).mono ?_; rintro e w3 ⟨rfl, rfl⟩)
  go_upto_region 7 with (go_at_call 19; refine (new19_no tb first' sum' w0 hnb).mono ?_; rintro e w4 ⟨rfl, rfl⟩)
  have HU0 : Hid (Upd (fun t_ => t_ ≠ 0) (fun _ => 0) w (fun _ => 0) w0) := Lib.hid (Upd.of_below' HB0.out (fun _ _ => rfl) : Upd (fun t_ => t_ ≠ 0) (fun _ => 0) w (fun _ => 0) w0)
  clear HB0
  go_wp2_with (fail)
  go_loopw [23, 24, 25, 26] (fun v23 v24 v25 v26 wr => ∃ (k : Nat) (ownr : Nat → Nat) (la lb : Int), k ≤ m ∧ v26 = .int .i64 k ∧ v25 = .bool true ∧ v23 = .int .i64 la ∧ v24 = .int .i64 lb ∧ Hid (Upd (fun t_ => t_ ≠ 0) (fun _ => 0) w ownr wr)) (fun _ _ _ v26 _ => m - (intOf v26).toNat)
  case atStart => exact ⟨0, (fun _ => 0), _, _, Nat.zero_le _, rfl, rfl, rfl, rfl, HU0⟩
  case round =>
    clear HU0
    obtain ⟨k, ownr, la, lb, hk, rfl, rfl, rfl, rfl, HU⟩ := hrel
    by_cases hlt : k < m
    · obtain ⟨ad, A6, c6, A7, c7, A8, c8, hA, e0, e1, e2, e3, e4, e5, e6, e7, e8, e9, hl6, hC6, hl7, hC7, hl8, hC8⟩ := at_T57 HC.out (k : Int) (by omega) (by rw [← Hm.out]; omega)
      have hmem : rd_T57 l (k : Int) ∈ l := getD_mem _ _ _ (by rw [Int.toNat_natCast, ← Hm.out]; exact hlt)
      generalize rd_T57 l (k : Int) = o at *
      rw [Int.toNat_natCast] at e0 e1 e2 e3 e4 e5 e6 e7 e8 e9
      have hz1 : ownr (ad.add (k * 10)).block = 0 := HU.out.same _ (World.block_lt_of_cell? w _ e0) (fun h => h rfl)
      have HC6 := Lib.hid ((StC.came (own := fun _ => 0) hC6 (fun _ _ => rfl)).upd (S := fun t_ => t_ ≠ 0) (fun h => h rfl) HU.out)
      have HC7 := Lib.hid ((StC.came (own := fun _ => 0) hC7 (fun _ _ => rfl)).upd (S := fun t_ => t_ ≠ 0) (fun h => h rfl) HU.out)
      have HC8 := Lib.hid ((StC.came (own := fun _ => 0) hC8 (fun _ _ => rfl)).upd (S := fun t_ => t_ ≠ 0) (fun h => h rfl) HU.out)
      replace e0 := HU.out.cell e0 (fun h => h rfl)
      replace e1 := HU.out.cell e1 (fun h => h rfl)
      replace e2 := HU.out.cell e2 (fun h => h rfl)
      replace e3 := HU.out.cell e3 (fun h => h rfl)
      replace e4 := HU.out.cell e4 (fun h => h rfl)
      replace e5 := HU.out.cell e5 (fun h => h rfl)
      replace e6 := HU.out.cell e6 (fun h => h rfl)
      replace e7 := HU.out.cell e7 (fun h => h rfl)
      replace e8 := HU.out.cell e8 (fun h => h rfl)
      replace e9 := HU.out.cell e9 (fun h => h rfl)
      subst hA
      clear hC6 hC7 hC8
      by_cases hsec : o.f1 = true
      · rw [hsec] at e1
        clear hmem hl6 hl7 hl8
        go_wp2_with (fail)
        go_roundw
        case rel => exact ⟨k + 1, ownr, la, lb, by omega, by go_num, rfl, rfl, rfl, HU⟩
        case measure => simp [intOf]; omega
      · have hsec2 : o.f1 = false := by simpa using hsec
        rw [hsec2] at e1
        clear hmem hl6 hl7 hl8
        go_wp2_with (fail)
        go_roundw
        case rel => exact ⟨k + 1, ownr, la, lb, by omega, by go_num, rfl, rfl, rfl, HU⟩
        case measure => simp [intOf]; omega
    · go_wp2_with (fail)
      go_ret
      exact ⟨rfl, HU.out.below (Nat.le_refl _) (fun _ _ h => h rfl)⟩
theorem postAll_walk (a b sum c d sum' : Int) (l : List S57) (A : Option Addr) (cl : Nat) (w : World) (hC : Kd.C k57 w A l.length l) (hcl : l.length ≤ cl) (hl : ∀ o ∈ l, lenO o) (hb : l.length ≤ 20000000000000) :
    Calls Try.prog 5 #[.int .i64 a, .int .i64 b, .int .u32 sum, .int .i64 c, .int .i64 d, .int .u32 sum', .slice A l.length cl] w fun e w' => e = .returned (.bool true) ∧ Below w.heap.size w w' := by
  by_cases ha : a < 1 ∨ 12 < a ∨ b < 1 ∨ 10000 < b
  · by_cases hc : c < 1 ∨ 12 < c ∨ d < 1 ∨ 10000 < d
    · exact postAll_nn a b ha sum c d hc sum' l A cl w hC hcl hl hb
    · obtain ⟨n', rfl⟩ : ∃ n' : Nat, c = n' := ⟨c.toNat, by omega⟩
      exact postAll_nv a b ha sum n' d (by omega) (by omega) (by omega) (by omega) sum' l A cl w hC hcl hl hb
  · obtain ⟨n, rfl⟩ : ∃ n : Nat, a = n := ⟨a.toNat, by omega⟩
    by_cases hc : c < 1 ∨ 12 < c ∨ d < 1 ∨ 10000 < d
    · exact postAll_vn n b (by omega) (by omega) (by omega) (by omega) sum c d hc sum' l A cl w hC hcl hl hb
    · obtain ⟨n', rfl⟩ : ∃ n' : Nat, c = n' := ⟨c.toNat, by omega⟩
      exact postAll_vv n b (by omega) (by omega) (by omega) (by omega) sum n' d (by omega) (by omega) (by omega) (by omega) sum' l A cl w hC hcl hl hb
end Go.Proofs.Ytcbaiplamaopeaa.PPostShots
