/- PostShots, walked. -/
import Derived.Test.YtcbaiplamaopeaaPR
namespace Go.Proofs.Ytcbaiplamaopeaa.PPostShots
open Go.RowKit Go.Conc Go.Proofs.YtcbaiplamaopeaaW.PrintWords Go.Proofs.YtcbaiplamaopeaaW.PrintLast Go.Proofs.Ytcbaiplamaopeaa.PPost
set_option linter.unusedVariables false
set_option linter.unusedSimpArgs false

set_option maxRecDepth 100000 in
set_option maxHeartbeats 40000000 in
theorem postShots_walk (a b sum : Int) (l : List S57) (A : Option Addr) (cl : Nat) (w : World) (hC : Kd.C k57 w A l.length l) (hcl : l.length ≤ cl) (hl : ∀ o ∈ l, lenO o) (hb : l.length ≤ 20000000000000) :
    Calls Try.prog 4 #[.int .i64 a, .int .i64 b, .int .u32 sum, .slice A l.length cl] w fun e w' => e = .returned (.bool true) ∧ Below w.heap.size w w' := by
  have HF := Lib.hid (few15 l A cl w hC hl)
  obtain ⟨m, hm⟩ : ∃ m, m = l.length := ⟨_, rfl⟩
  have Hm := Lib.hid hm
  have HC := Lib.hid hC
  have hm20 : m ≤ 20000000000000 := by omega
  rw [← hm] at HF ⊢
  clear hC hcl hl hb hm
  go_enter Try.func4, Try.ntmps4
  go_upto_if 19 with (go_at_call 15; refine HF.out.mono ?_; rintro e w0 ⟨bb, rfl, hbb, hB0⟩)
  clear HF
  cases bb with
  | false =>
    go_wp2_with (fail)
    go_ret
    exact ⟨rfl, hB0⟩
  | true =>
  have HB0 := Lib.hid hB0
  clear hbb hB0
  go_upto_region 7 with (first
    | (go_at_call 7; refine (fair7 a b w0).mono ?_; rintro e w1 ⟨n, first, rfl, n1, n2, f1, f2, HB1⟩)
    | (go_at_call 8; refine (new8_ok n first sum (fun _ => 0) w1 1 (by decide) n1 n2 f1 (by omega)).mono ?_; rintro e w2 ⟨g, own2, bm, c, bw, bp, pps, rfl, HP2, HU2, hg, hown2⟩))
  have HUa : Hid (Upd (fun t => t = 1 ∨ t = 2) (fun _ => 0) w own2 w2) := Lib.hid (((Upd.of_below' HB0.out (fun _ _ => rfl)).then (Upd.of_below' HB1.out (fun _ _ => rfl))).then (HU2.out.mono (fun _ h => h.elim)))
  have HSa := Lib.hid (SS.new n first sum)
  obtain ⟨own3, hown3⟩ : ∃ own3 : Nat → Nat, own3 = fresh own2 w2 2 := ⟨_, rfl⟩
  have HP3 : Hid (PostAt own3 (w2.alloc (.cells #[.int .i64 0, .slice none 0 0, .int .i64 0, .int .i64 0, .int .i64 first, .int .i64 0] 54)) g 1 _ bm c bw bp 0 0 0 pps []) := Lib.hid (by rw [hown3]; exact HP2.out.upd (T := fun _ => False) (fun e => e) (fun e => e) (Upd.alloc _ 2))
  have HG3 : Hid (StAt own3 (w2.alloc (.cells #[.int .i64 0, .slice none 0 0, .int .i64 0, .int .i64 0, .int .i64 first, .int .i64 0] 54)) w2.heap.size n ⟨0, [], 0, 0, first, 0⟩ (.slice none 0 0)) := Lib.hid ⟨blk_new _ _, by rw [hown3]; exact fresh_new (Nat.le_refl _), fun h => absurd h (by show ¬ (0 : Int) < 0; decide)⟩
  have HU3 : Hid (Upd (fun t => t = 1 ∨ t = 2) (fun _ => 0) w own3 (w2.alloc (.cells #[.int .i64 0, .slice none 0 0, .int .i64 0, .int .i64 0, .int .i64 first, .int .i64 0] 54))) := Lib.hid (by rw [hown3]; exact HUa.out.then (Upd.alloc _ 2))
  clear HB0 HB1 HU2 hg hown2 hown3 HUa HP2
  go_upto_block 0 with (fail)
  generalize w2.alloc (.cells #[.int .i64 0, .slice none 0 0, .int .i64 0, .int .i64 0, .int .i64 first, .int .i64 0] 54) = w3 at *
  generalize w2.heap.size = gs at *
  generalize PS.new n first sum = S0 at *
  go_cut [] (fun wr => ∃ (S : PS) (T : ST) (v : Value) (ownr : Nat → Nat) (bm c bw bp nm s r : Nat) (pps : List PP) (pbuf : List (Nat × PP)), Hid (PostAt ownr wr g 1 S bm c bw bp nm s r pps pbuf) ∧ Hid (StAt ownr wr gs n T v) ∧ Hid (SS n sum S T) ∧ Hid (Upd (fun t => t = 1 ∨ t = 2) (fun _ => 0) w ownr wr) ∧ Hid (nm ≤ m) ∧ Hid (0 ≤ T.marks ∧ T.marks ≤ m))
  case first =>
    go_wp2_with (fail)
    go_loopw [12] (fun v12 wr => ∃ (k : Nat) (S : PS) (T : ST) (v : Value) (ownr : Nat → Nat) (bm c bw bp nm s r : Nat) (pps : List PP) (pbuf : List (Nat × PP)), k ≤ m ∧ v12 = .int .i64 k ∧ Hid (PostAt ownr wr g 1 S bm c bw bp nm s r pps pbuf) ∧ Hid (StAt ownr wr gs n T v) ∧ Hid (SS n sum S T) ∧ Hid (Upd (fun t => t = 1 ∨ t = 2) (fun _ => 0) w ownr wr) ∧ Hid (nm ≤ k) ∧ Hid (0 ≤ T.marks ∧ T.marks ≤ k)) (fun v12 _ => m - (intOf v12).toNat)
    case atStart => exact ⟨0, S0, _, _, own3, bm, c, bw, bp, 0, 0, 0, pps, [], Nat.zero_le _, rfl, HP3, HG3, HSa, HU3, Lib.hid (Nat.le_refl _), Lib.hid ⟨Int.le_refl _, Int.le_refl _⟩⟩
    case round =>
      clear HP3 HG3 HSa HU3
      obtain ⟨k, S, T, v, ownr, bm, c, bw, bp, nm, s, r, pps, pbuf, hk, rfl, HP, HG, HSS, HU, Hnm, HMK⟩ := hrel
      by_cases hlt : k < m
      · have hBw : Below w.heap.size w wr := HU.out.below (Nat.le_refl _) (fun k _ h => by rcases h with h | h <;> exact absurd h (by decide))
        obtain ⟨ad, A6, c6, A7, c7, A8, c8, hA, e0, e1, e2, e3, e4, e5, e6, e7, e8, e9, hl6, hC6, hl7, hC7, hl8, hC8⟩ := at_T57 (Kd.C_below HC.out hBw) (k : Int) (by omega) (by rw [← Hm.out]; omega)
        generalize rd_T57 l (k : Int) = o at *
        rw [Int.toNat_natCast] at e0 e1 e2 e3 e4 e5 e6 e7 e8 e9
        have HST := Lib.hid (step16 ownr wr g S bm c bw bp nm s r pps pbuf HP.out gs n sum T v HG.out HSS.out (by have := Hnm.out; unfold maxLen; omega) HMK.out.1 (by have := HMK.out.2; omega) o A6 c6 A7 c7 A8 c8 hC6 hl6 hC7 hl7 hC8 hl8)
        subst hA
        clear hBw hC6 hC7 hC8 hl6 hl7 hl8
        go_upto_region 14 with (first
          | (go_at_call 16; refine HST.out.mono ?_; rintro e w4 ⟨rfl, own4, S4, T4, v4, bm4, c4, bw4, bp4, nm4, s4, r4, pps4, pbuf4, HP4, HG4, HSS4, hu4, hn4, hm4, hm5⟩
             have HU4 := Lib.hid (HU.out.then hu4.out)
             have Hnm4 : Hid (nm4 ≤ k + 1) := Lib.hid (by have := Hnm.out; omega)
             have HMK4 : Hid (0 ≤ T4.marks ∧ T4.marks ≤ ((k + 1 : Nat) : Int)) := Lib.hid ⟨hm4, by have := HMK.out.2; omega⟩
             clear hu4 hn4 hm4 hm5)
          | (go_at_call 17; have hop := open17 own4 w4 g 1 S4 bm4 c4 bw4 bp4 nm4 s4 r4 pps4 pbuf4 HP4.out (by decide)
             rw [(HSS4.out.opened HP4.out.ok).1] at hop
             refine hop.mono ?_; rintro e w5 ⟨lv, rfl, hR, hB⟩
             obtain ⟨Al, cl', rfl⟩ := Kd.R_slice hR.out
             have hu5 : Upd (fun _ => False) own4 w4 own4 w5 := Upd.of_below' hB.out (fun _ _ => rfl)
             have HP5 := Lib.hid (HP4.out.upd (T := fun _ => False) (fun e => e) (fun e => e) hu5)
             have HG5 := Lib.hid (HG4.out.upd (P := fun _ => False) (fun e => e) hu5)
             have HU5 := Lib.hid (HU4.out.then (hu5.mono (fun _ h => h.elim)))
             clear hop hR hB hu5))
        have g0 : w5.cell? ⟨gs, 0, none⟩ = some (.int .i64 T4.id) := blk_at HG5.out.hb 0 rfl
        have g3 : w5.cell? ⟨gs, 3, none⟩ = some (.int .i64 T4.picked) := blk_at HG5.out.hb 3 rfl
        obtain ⟨-, o2, o3⟩ := HSS4.out.opened HP4.out.ok
        clear e0 e1 e2 e3 e4 e5 e6 e7 e8 e9 HST HP HG HSS HU
        rcases HSS4.out.pos HP4.out.ok with hp | hp
        · have hq := o2 hp
          generalize S4.open_.2.length = q at *
          have hpk : 0 ≤ T4.picked ∧ T4.picked ≤ (n : Int) := by
            have := HSS4.out.pk hp
            have h2 : S4.wh.count 2 ≤ S4.wh.length := List.count_le_length
            rw [HP4.out.ok.lw, HSS4.out.en] at h2
            omega
          have hwr : IntKind.i64.wrap ((n : Int) - T4.picked) = (n : Int) - T4.picked := by rw [IntKind.wrap_i64]; omega
          have k1 : decide (0 < T4.id) = true := decide_eq_true hp
          have k3 : (T4.id == 0) = false := by simp; omega
          have hp0 := hpk.1
          have hp1 := hpk.2
          clear hp o2 o3 hpk hwr
          go_wp2_with (fail)
          go_roundw
          case rel => exact ⟨k + 1, S4, T4, v4, own4, bm4, c4, bw4, bp4, nm4, s4, r4, pps4, pbuf4, by omega, by go_num, HP5, HG5, HSS4, HU5, Hnm4, HMK4⟩
          case measure => simp [intOf]; omega
        · have hq := o3 hp
          rw [hq]
          have k1 : decide (0 < T4.id) = false := decide_eq_false (by omega)
          have k3 : (T4.id == 0) = true := by simpa using hp
          clear hp hq o2 o3
          go_wp2_with (fail)
          go_roundw
          case rel => exact ⟨k + 1, S4, T4, v4, own4, bm4, c4, bw4, bp4, nm4, s4, r4, pps4, pbuf4, by omega, by go_num, HP5, HG5, HSS4, HU5, Hnm4, HMK4⟩
          case measure => simp [intOf]; omega
      · obtain rfl : k = m := by omega
        go_wp2_with (fail)
        go_meet
        exact ⟨S, T, v, ownr, bm, c, bw, bp, nm, s, r, pps, pbuf, HP, HG, HSS, HU, Hnm, HMK⟩
  case rest =>
  clear HP3 HG3 HSa HU3
  obtain ⟨S, T, v, ownr, bm, c, bw, bp, nm, s, r, pps, pbuf, HP, HG, HSS, HU, Hnm, HMK⟩ := hcut
  have HT := Lib.hid (trigger9 ownr wc g 1 S bm c bw bp nm s r pps pbuf HP.out (by decide) (by have := Hnm.out; unfold maxLen; omega))
  have Hx1 : Hid (1 ≤ T.next) := Lib.hid (by rw [← HSS.out.nx]; exact HP.out.ok.x1)
  rcases HSS.out.trig HP.out.ok with ⟨t1, t2⟩ | ⟨t1, t2, t3⟩ | ⟨t1, t2, t3, t4, -⟩
  · rw [t2] at HT
    dsimp only at HT
    have Ht1 := Lib.hid t1
    clear t1 t2
    go_wp2_with (first
      | (go_at_call 9; refine HT.out.mono ?_; rintro e w3 ⟨rfl, own3, bm3, c3, bw3, bp3, nm3, s3, r3, pps3, pbuf3, hP, hU, hn⟩
         have HG3 := Lib.hid (HG.out.upd (P := (· = 1)) (by decide) hU)
         have HU3 := Lib.hid (HU.out.then (hU.mono (fun _ h => .inl h)))
         clear hP hU hn)
      | (go_at_call 18; refine (story18_under own3 w3 gs n T v HG3.out sum Ht1.out).mono ?_; rintro e w4 ⟨rfl, rfl⟩))
    go_ret
    exact ⟨rfl, HU3.out.below (Nat.le_refl _) (fun k _ h => by rcases h with h | h <;> exact absurd h (by decide))⟩
  · rw [t3] at HT
    dsimp only at HT
    have Ht1 := Lib.hid t1
    have Ht2 := Lib.hid t2
    clear t1 t2 t3
    go_wp2_with (first
      | (go_at_call 9; refine HT.out.mono ?_; rintro e w3 ⟨rfl, own3, bm3, c3, bw3, bp3, nm3, s3, r3, pps3, pbuf3, hP, hU, hn⟩
         have HG3 := Lib.hid (HG.out.upd (P := (· = 1)) (by decide) hU)
         have HU3 := Lib.hid (HU.out.then (hU.mono (fun _ h => .inl h)))
         clear hP hU hn)
      | (go_at_call 18; refine (story18_ids own3 w3 gs n T v HG3.out (by have := Ht1.out; omega) (by have := Ht2.out; omega)).mono ?_; rintro e w4 ⟨rfl, rfl⟩))
    go_ret
    exact ⟨rfl, HU3.out.below (Nat.le_refl _) (fun k _ h => by rcases h with h | h <;> exact absurd h (by decide))⟩
  · rw [t3, t4] at HT
    have Ht1 := Lib.hid t1
    have Ht2 := Lib.hid t2
    clear t1 t2 t3 t4
    go_wp2_with (first
      | (go_at_call 9; refine HT.out.mono ?_; rintro e w3 ⟨rfl, own3, bm3, c3, bw3, bp3, nm3, s3, r3, pps3, pbuf3, hP, hU, hn⟩
         have HG3 := Lib.hid (HG.out.upd (P := (· = 1)) (by decide) hU)
         have HU3 := Lib.hid (HU.out.then (hU.mono (fun _ h => .inl h)))
         clear hP hU hn)
      | (go_at_call 18; refine (story18_ok own3 w3 gs n T v HG3.out (by have := Ht1.out; omega) (by have := Ht2.out; omega) Hx1.out n2).mono ?_; rintro e w4 ⟨rfl, own4, v4, HG4, hu4⟩))
    go_ret
    exact ⟨rfl, (HU3.out.then (hu4.out.mono (fun _ h => .inr h))).below (Nat.le_refl _) (fun k _ h => by rcases h with h | h <;> exact absurd h (by decide))⟩
end Go.Proofs.Ytcbaiplamaopeaa.PPostShots
