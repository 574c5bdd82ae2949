/- LaneRefill, walked. -/
import Derived.Test.YtcbfddhdaamimaaWP
import Derived.Test.YtcbfddhdaamimaaPQ
namespace Go.Proofs.Ytcbfddhdaamimaa.PLaneFifo
open Go.RowKit Go.Conc Go.Proofs.YtcbfddhdaamimaaW.PrintWords Go.Proofs.YtcbfddhdaamimaaW.PrintLast
set_option linter.unusedVariables false
set_option linter.unusedSimpArgs false

set_option maxRecDepth 100000 in
set_option maxHeartbeats 20000000 in
theorem laneRefill_walk (rm0 : Int) (l : List S35) (A : Option Addr) (cl : Nat) (rs : List S33) (B : Option Addr) (cb : Nat) (w : World) (hC : Kd.C k35 w A l.length l) (hcl : l.length ≤ cl) (hlen : ∀ y ∈ l, lenR y.f1) (hD : Kd.C k33 w B rs.length rs) (hcb : rs.length ≤ cb) (hlr : ∀ y ∈ rs, lenR y) :
    Calls Try.prog 4 #[.int .i64 rm0, .slice A l.length cl, .slice B rs.length cb] w fun e w' => e = .returned (.bool true) ∧ Below w.heap.size w w' := by
  have HI := Lib.hid (Items_6 l A cl w hC hlen)
  have HI2 : Hid (∀ W : World, PLift (Below w.heap.size w W) → Calls Try.prog 14 #[.slice B rs.length cb] W fun e w' => ∃ b, e = .returned (.bool b) ∧ (b = true → Records_P rs ≤ 10000) ∧ Below W.heap.size W w') := Lib.hid (fun W hW => Records_14 rs B cb W (Kd.C_below hD hW.down) hlr)
  obtain ⟨n, hn⟩ : ∃ n, n = l.length := ⟨_, rfl⟩
  obtain ⟨nr, hnr⟩ : ∃ nr, nr = rs.length := ⟨_, rfl⟩
  have Hn := Lib.hid hn
  have Hnr := Lib.hid hnr
  have HC := Lib.hid hC
  have HD := Lib.hid hD
  have Hcb := Lib.hid hcb
  rw [← hn] at HI ⊢
  rw [← hnr] at HI2 ⊢
  clear hC hcl hlen hn hD hcb hlr hnr
  go_enter Try.func4, Try.ntmps4
  go_upto_if 26 with (first
    | (go_at_call 6; refine HI.out.mono ?_; rintro e w1 ⟨b1, rfl, hb1, hB1⟩
       have HB1 := Lib.hid hB1
       have Hb1 := Lib.hid hb1
       clear hb1 hB1)
    | (go_at_call 14; refine (HI2.out _ ⟨HB1.out⟩).mono ?_; rintro e w2 ⟨b2, rfl, hb2, hB2⟩
       have HB2 := Lib.hid hB2
       have Hb2 := Lib.hid hb2
       clear hb2 hB2))
  rotate_left
  · go_wp2_with (fail)
    go_ret
    exact ⟨rfl, HB1.out⟩
  cases b2 with
  | false =>
    go_wp2_with (fail)
    go_ret
    exact ⟨rfl, HB1.out.trans (HB2.out.mono HB1.out.size)⟩
  | true =>
  have HP1 : Hid (partsIs l ≤ 10000) := Lib.hid (Hb1.out ‹_›)
  have HP2 : Hid (partsRs rs ≤ 10000) := Lib.hid (Hb2.out rfl)
  have HBw2 : Hid (Below w.heap.size w w2) := Lib.hid (HB1.out.trans (HB2.out.mono HB1.out.size))
  have hn9 : n ≤ 10000 := by rw [Hn.out]; exact Nat.le_trans (partsIs_len l) HP1.out
  have hnr9 : nr ≤ 10000 := by rw [Hnr.out]; exact Nat.le_trans (partsRs_len rs) HP2.out
  clear HI HI2 Hb1 Hb2 HB1 HB2
  obtain ⟨rm, hrm⟩ : ∃ rm : Int, rm = if rm0 < 1 ∨ 8 < rm0 then 1 else rm0 := ⟨_, rfl⟩
  have hrm1 : 1 ≤ rm ∧ rm ≤ 8 := by rw [hrm]; split <;> omega
  have Hrm := Lib.hid hrm
  have Hrm1 := Lib.hid hrm1
  clear hrm hrm1
  go_upto_region 3 with (fail)
  go_cut [32] (fun v32 wx => v32 = .bool (decide (rm0 < 1 ∨ 8 < rm0)) ∧ wx = w2)
  case first =>
    by_cases h1 : rm0 < 1
    · have k1 : decide (rm0 < 1) = true := decide_eq_true h1
      go_wp2_with (fail)
      go_meet
      exact ⟨by simp [h1], rfl⟩
    · have k1 : decide (rm0 < 1) = false := decide_eq_false h1
      have H1 := Lib.hid h1
      go_wp2_with (fail)
      go_meet
      exact ⟨congrArg Value.bool (decide_eq_decide.2 ⟨.inr, fun h => h.resolve_left (by have := H1.out; omega)⟩), rfl⟩
  case rest =>
  obtain ⟨rfl, rfl⟩ := hcut
  go_upto_if 32 with (fail)
  go_cut [0] (fun v0 wx => v0 = .int .i64 rm ∧ wx = wc)
  case first =>
    by_cases h1 : rm0 < 1 ∨ 8 < rm0
    · have k1 : decide (rm0 < 1 ∨ 8 < rm0) = true := decide_eq_true h1
      have Hr : rm = 1 := by rw [Hrm.out, if_pos h1]
      rw [k1]
      go_wp2_with (fail)
      go_meet
      exact ⟨by rw [Hr], rfl⟩
    · have k1 : decide (rm0 < 1 ∨ 8 < rm0) = false := decide_eq_false h1
      have Hr : rm = rm0 := by rw [Hrm.out, if_neg h1]
      rw [k1]
      go_wp2_with (fail)
      go_meet
      exact ⟨by rw [Hr], rfl⟩
  case rest =>
  obtain ⟨rfl, rfl⟩ := hcut
  obtain ⟨w2, rfl⟩ : ∃ w2 : World, w2 = wc := ⟨_, rfl⟩
  have HN := Lib.hid (new7_ok (fun _ => 0) w2 rm (by have := Hrm1.out; omega) Hrm1.out.2)
  have HCS : Hid (StC k35 (fun _ => 0) w A n l) := Lib.hid (by rw [Hn.out]; exact StC.came HC.out (fun _ _ => rfl))
  have HDS : Hid (StC k33 (fun _ => 0) w B nr rs) := Lib.hid (by rw [Hnr.out]; exact StC.came HD.out (fun _ _ => rfl))
  have Hpl : Hid (∀ y ∈ l, partsR y.f1 ≤ 100000) := Lib.hid (fun y hy => Nat.le_trans (partsIs_mem hy) (by have := HP1.out; omega))
  have Hpr : Hid (∀ y ∈ rs, partsR y ≤ 100000) := Lib.hid (fun y hy => Nat.le_trans (partsRs_mem hy) (by have := HP2.out; omega))
  clear HC HD HP1 HP2
  go_upto_region 8 with (first
    | (go_at_call 7; refine HN.out.mono ?_; rintro e w3 ⟨g, c1, own1, cap1, s1, r1, rfl, HL1, HU1, hg1⟩))
  have HT1 : Hid (Upd (· = 1) (fun _ => 0) w own1 w3) := Lib.hid (((Upd.of_below' HBw2.out (fun _ _ => rfl)).then HU1.out).mono (fun _ h => h.elim))
  have hput := put8 own1 w3 g c1 cap1 s1 r1 rm [] HL1.out l A cl (by rw [← Hn.out]; exact HCS.out.upd (S := (· = 1)) (by decide) HT1.out) (by simp; rw [← Hn.out]; omega) Hpl.out
  rw [← Hn.out] at hput
  have HPUT := Lib.hid hput
  obtain ⟨xs, hxs⟩ : ∃ xs, xs = (putP rm [] l).2.2 := ⟨_, rfl⟩
  have Hxs := Lib.hid hxs
  have hout := putP_out rm l []
  rw [← hxs] at hout
  have Hxc : Hid (∀ x ∈ xs, cop x = x ∧ partsR x.f1 ≤ 100000) := Lib.hid (fun x hx => by
    rcases hout.1 x hx with h | ⟨y, hy, rfl, -⟩
    · cases h
    · exact ⟨cop_cop y, Nat.le_trans (partsR_cop y) (Hpl.out y hy)⟩)
  obtain ⟨m, hm⟩ : ∃ m, m = xs.length := ⟨_, rfl⟩
  have Hm := Lib.hid hm
  have hm9 : m ≤ 10000 := by have := hout.2; rw [← hm, ← Hn.out] at this; simp at this; omega
  clear HN HU1 hg1 hput hxs hout hm
  go_upto_region 9 with (first
    | (go_at_call 8; refine HPUT.out.mono ?_; intro e w4 hq; obtain ⟨l4, hl4, he, own4, c4, cap4, s4, r4, hL4, hU4⟩ := hq; subst he
       have HL4 := Lib.hid hL4
       have HU4 := Lib.hid hU4
       have Hl4 : Hid (l4.map (·.1) = xs) := Lib.hid (hl4.trans Hxs.out.symm)
       clear hl4 hL4 hU4))
  have HT4 := Lib.hid (HT1.out.then HU4.out)
  have hl4m : l4.length = m := by rw [lane_len Hl4.out, Hm.out]
  have hli := (list15 own4 w4 g c4 cap4 s4 r4 rm l4 HL4.out (by omega) (lane_parts Hl4.out (fun x hx => (Hxc.out x hx).2)))
  have HLI : Hid (Calls Try.prog 15 #[.pointer (some ⟨g, 0, none⟩)] w4 fun e w' => ∃ own' c cap s r Aw cw l2, e = .returned (.slice Aw m cw) ∧ l2.map (·.1) = xs ∧ Hid (LaneAt own' w' g rm false l4 c cap s r) ∧ Hid (Upd (· = 1) own4 w4 own' w') ∧ Hid (StC (pk k35 own' w') own' w' Aw m l2)) := Lib.hid (hli.mono (by
    rintro e w' ⟨own', c, cap, s, r, Aw, cw, l2, he, h1, h2, h3, h4⟩
    rw [hl4m] at he h4
    refine ⟨own', c, cap, s, r, Aw, cw, l2, he, ?_, h2, h3, Lib.hid (StC.made h4.out)⟩
    rw [h1, ← Hl4.out]
    exact List.map_congr_left (fun p hp => (Hxc.out p.1 (by rw [← Hl4.out]; exact List.mem_map_of_mem hp)).1)))
  clear hli
  clear HT1 HPUT HL1 HU4
  go_upto_region 10 with (first
    | (go_at_call 15; refine HLI.out.mono ?_; rintro e w5 ⟨own5, c5, cap5, s5, r5, Aw, cw, l5, rfl, hl5, HL5, HU5, HW5⟩
       have Hl5 := Lib.hid hl5
       clear hl5))
  have HT5 := Lib.hid (HT4.out.then HU5.out)
  have hre := refill16 own5 w5 g c5 cap5 s5 r5 rm l4 HL5.out rs B cb (by rw [← Hnr.out]; exact (HDS.out.upd (S := (· = 1)) (by decide) HT5.out).now) (by rw [hl4m, ← Hnr.out]; omega) Hpr.out
  rw [← Hnr.out] at hre
  have HRE := Lib.hid hre
  clear HT4 HLI HL4 HU5 hre
  go_upto_block 0 with (first
    | (go_at_call 16; refine HRE.out.mono ?_; intro e w6 hq; obtain ⟨l1, hl1, he, own6, c6, cap6, s6, r6, hL6, hU6⟩ := hq; subst he
       have HL6 := Lib.hid hL6
       have HU6 := Lib.hid hU6
       have Hl6 : Hid ((l1 ++ l4).map (·.1) = rs.map item0 ++ xs) := Lib.hid (by rw [List.map_append, hl1, Hl4.out])
       clear hl1 hL6 hU6))
  have HT6 := Lib.hid (HT5.out.then HU6.out)
  have HW6 := Lib.hid (StC_pk_upd HW5.out (S := (· = 1)) (by decide) HU6.out)
  have HD6 := Lib.hid (HDS.out.upd (S := (· = 1)) (by decide) HT6.out)
  have hl5m : l5.length = m := by rw [lane_len Hl5.out, Hm.out]
  clear HT5 HRE HL5 HU6 HW5 HDS HCS
  generalize l1 ++ l4 = l6 at *
  -- how many records are held
  go_cut [11] (fun v11 wx => v11 = .int .i64 ((nr : Int) + recsX xs) ∧ wx = w6)
  case first =>
    go_wp2_with (fail)
    go_loopw [11, 12] (fun v11 v12 wr => ∃ (k : Nat) (h : Int), k ≤ m ∧ v12 = .int .i64 k ∧ v11 = .int .i64 h ∧ Hid (h = (nr : Int) + recsX (xs.take k)) ∧ wr = w6) (fun _ v12 _ => m - (intOf v12).toNat)
    case atStart => exact ⟨0, (nr : Int), Nat.zero_le _, rfl, rfl, Lib.hid (by simp [recsX]), rfl⟩
    case round =>
      obtain ⟨k, h, hk, rfl, rfl, HH, rfl⟩ := hrel
      have hh9 : 0 ≤ h ∧ h ≤ 20000 := by
        have h1 := recsX_le (xs.take k)
        rw [List.length_take] at h1
        have h2 := HH.out
        omega
      by_cases hlt : k < m
      · obtain ⟨ad, y, B5, d5, B6, d6, rfl, hy, hsy, a0, -⟩ := at_pk HW6.out.now k (by rw [hl5m]; exact hlt)
        have hkx : k < xs.length := by rw [← Hm.out]; exact hlt
        have hys : xs[k] = y := by
          have : (l5.map (·.1))[k]'(by rw [List.length_map, hl5m]; exact hlt) = y := by rw [List.getElem_map, hy]
          rw [← this]
          congr 1
          exact Hl5.out.symm
        have Hnext : Hid (recsX (xs.take (k + 1)) = recsX (xs.take k) + if y.f0 = 0 then 1 else 0) := Lib.hid (by rw [List.take_succ_eq_append_getElem hkx, hys, recsX_snoc])
        clear hy hsy hys hkx
        by_cases hz : y.f0 = 0
        · have k1 : (y.f0 == 0) = true := by simp [hz]
          rw [if_pos hz] at Hnext
          clear hz
          go_wp2_with (fail)
          go_roundw
          case rel => exact ⟨k + 1, h + 1, by omega, by go_num, rfl, Lib.hid (by rw [Hnext.out, HH.out]; omega), trivial⟩
          case measure => simp [intOf]; omega
        · have k1 : (y.f0 == 0) = false := by simp [hz]
          rw [if_neg hz] at Hnext
          clear hz
          go_wp2_with (fail)
          go_roundw
          case rel => exact ⟨k + 1, h, by omega, by go_num, rfl, Lib.hid (by rw [Hnext.out, HH.out]; omega), trivial⟩
          case measure => simp [intOf]; omega
      · obtain rfl : k = m := by omega
        rw [List.take_of_length_le (by rw [Hm.out]; exact Nat.le_refl _)] at HH
        go_wp2_with (fail)
        go_meet
        exact ⟨by rw [HH.out], rfl⟩
  case rest =>
  obtain ⟨rfl, rfl⟩ := hcut
  obtain ⟨w6, rfl⟩ : ∃ w6 : World, w6 = wc := ⟨_, rfl⟩
  obtain ⟨L, hL⟩ : ∃ L, L = rs.map item0 ++ xs := ⟨_, rfl⟩
  have HLL := Lib.hid hL
  have Hh0 : Hid ((nr : Int) + recsX xs = recsX L) := Lib.hid (by rw [hL, recsX_front, Hnr.out])
  have HLlen : Hid (L.length = nr + m) := Lib.hid (by rw [hL, List.length_append, List.length_map, Hnr.out, Hm.out])
  have HLp : Hid (∀ x ∈ L, partsR x.f1 ≤ 100000) := Lib.hid (fun x hx => by
    rw [hL, List.mem_append] at hx
    rcases hx with h | h
    · obtain ⟨y, hy, rfl⟩ := List.mem_map.1 h
      exact Hpr.out y hy
    · exact (Hxc.out x h).2)
  rw [← hL] at Hl6
  rw [Hh0.out]
  obtain ⟨h0, hh0⟩ : ∃ h0, h0 = recsX L := ⟨_, rfl⟩
  have Hh := Lib.hid hh0
  rw [← hh0]
  clear hL hh0 Hh0
  have hrm1 : 1 ≤ rm := Hrm1.out.1
  -- taken one by one
  go_upto_block 2 with (fail)
  go_cut [11] (fun v11 wx => v11 = .int .i64 0 ∧ ∃ own9 c9 cap9 s9 r9, Hid (LaneAt own9 wx g rm false [] c9 cap9 s9 r9) ∧ Hid (Upd (· = 1) own6 w6 own9 wx))
  case first =>
    go_wp2_with (fail)
    go_loopw [11, 13] (fun v11 v13 wr => ∃ (k : Nat) (h : Int) (lk : List Pr) (ownr : Nat → Nat) (c9 cap9 s9 r9 : Nat), k ≤ nr + m ∧ v13 = .int .i64 k ∧ v11 = .int .i64 h ∧ Hid (h = recsX (L.drop k)) ∧ Hid (lk.map (·.1) = L.drop k) ∧ Hid (LaneAt ownr wr g rm false lk c9 cap9 s9 r9) ∧ Hid (Upd (· = 1) own6 w6 ownr wr)) (fun _ v13 _ => nr + m - (intOf v13).toNat)
    case atStart => exact ⟨0, h0, l6, own6, c6, cap6, s6, r6, Nat.zero_le _, rfl, rfl, Hh, Hl6, HL6, Lib.hid (Upd.refl _ _ _)⟩
    case round =>
      obtain ⟨k, h, lk, ownr, c9, cap9, s9, r9, hk, rfl, rfl, HH, HLK, HL, HU⟩ := hrel
      have hh9 : 0 ≤ h ∧ h ≤ 20000 := by
        have h1 := recsX_le (L.drop k)
        rw [List.length_drop, HLlen.out] at h1
        have h2 := HH.out
        omega
      by_cases hlt : k < nr + m
      · have hkL : k < L.length := by rw [HLlen.out]; exact hlt
        rcases lk with _ | ⟨⟨x, cs⟩, lk⟩
        · exfalso
          have := congrArg List.length HLK.out
          rw [List.length_map, List.length_drop, HLlen.out] at this
          simp at this
          omega
        obtain ⟨D5, e5', D6, e6', hcs, -⟩ := k35_open (HL.out.st (x, cs) (by simp)).now
        simp only [] at hcs
        subst hcs
        have hsx : St k35 ownr wr x [.int .i64 x.f0, .string x.f1.f0, .int .i64 x.f1.f1.f0, .int .i64 x.f1.f1.f1, .string x.f1.f1.f2, .slice D5 x.f1.f1.f3.length e5', .slice D6 x.f1.f2.length e6'] := HL.out.st (x, _) (by simp)
        have hdr : x = L[k] ∧ lk.map (·.1) = L.drop (k + 1) := by
          have h1 := HLK.out
          rw [List.drop_eq_getElem_cons hkL, List.map_cons] at h1
          exact List.cons.inj h1
        have hhn : recsX (L.drop k) = recsX (L.drop (k + 1)) + if x.f0 = 0 then 1 else 0 := by
          rw [List.drop_eq_getElem_cons hkL, recsX_cons, hdr.1]
        have hfull : full rm ((x, [.int .i64 x.f0, .string x.f1.f0, .int .i64 x.f1.f1.f0, .int .i64 x.f1.f1.f1, .string x.f1.f1.f2, .slice D5 x.f1.f1.f3.length e5', .slice D6 x.f1.f2.length e6']) :: lk) = decide (rm ≤ h) := by
          rw [full_map, HLK.out]
          unfold fullX
          rw [← HH.out, decide_eq_true (by omega : 0 < rm), Bool.true_and]
        have hf17 := full17 ownr wr g c9 cap9 s9 r9 rm _ HL.out
        rw [hfull] at hf17
        have HF17 := Lib.hid hf17
        have Hx := Lib.hid hdr.1
        have Hdr := Lib.hid hdr.2
        have Hhn := Lib.hid hhn
        have HkL := Lib.hid hkL
        have Hpx : Hid (partsR x.f1 ≤ 100000) := Lib.hid (by rw [hdr.1]; exact HLp.out _ (List.getElem_mem _))
        have HTK : Hid (∀ W : World, PLift (Below wr.heap.size wr W) → Calls Try.prog 12 #[.pointer (some ⟨g, 0, none⟩)] W fun e w' => e = .returned (.tuple #[.agg #[.int .i64 x.f0, .string x.f1.f0, .int .i64 x.f1.f1.f0, .int .i64 x.f1.f1.f1, .string x.f1.f1.f2, .slice D5 x.f1.f1.f3.length e5', .slice D6 x.f1.f2.length e6'], .bool true]) ∧ LaneTo ownr W g rm false lk w') := Lib.hid (fun W hW => take12_some ownr W g c9 cap9 s9 r9 rm (x, [.int .i64 x.f0, .string x.f1.f0, .int .i64 x.f1.f1.f0, .int .i64 x.f1.f1.f1, .string x.f1.f1.f2, .slice D5 x.f1.f1.f3.length e5', .slice D6 x.f1.f2.length e6']) lk (HL.out.upd (S := fun _ => False) (by decide) (by decide) (Upd.of_below' hW.down (fun _ _ => rfl))) (by have := congrArg List.length HLK.out; rw [List.length_map, List.length_drop, List.length_cons, HLlen.out] at this; omega))
        have HSX := Lib.hid hsx
        clear hsx hdr hhn hfull hf17
        have hbb : ∀ b : Bool, (b != b) = false := fun b => by cases b <;> rfl
        go_upto_region 27 with (first
          | (go_at_call 17; refine HF17.out.mono ?_; rintro e w7 ⟨rfl, HB7⟩)
          | (go_at_call 12; refine (HTK.out _ ⟨HB7.out⟩).mono ?_; rintro e wt ⟨rfl, own9, c10, cap10, s10, r10, hL9, hU9⟩
             have HL9 := Lib.hid hL9
             have HU9 : Hid (Upd (· = 1) ownr wr own9 wt) := Lib.hid ((Upd.of_below' HB7.out (fun _ _ => rfl)).then hU9)
             clear hL9 hU9))
        have HE := Lib.hid (blk_new wt (.cells #[.int .i64 x.f0, .string x.f1.f0, .int .i64 x.f1.f1.f0, .int .i64 x.f1.f1.f1, .string x.f1.f1.f2, .slice D5 x.f1.f1.f3.length e5', .slice D6 x.f1.f2.length e6'] 35))
        have HUb : Hid (Upd (· = 1) own9 wt own9 (wt.alloc (.cells #[.int .i64 x.f0, .string x.f1.f0, .int .i64 x.f1.f1.f0, .int .i64 x.f1.f1.f1, .string x.f1.f1.f2, .slice D5 x.f1.f1.f3.length e5', .slice D6 x.f1.f2.length e6'] 35))) := Lib.hid (Upd.box _)
        have HL10 := Lib.hid (HL9.out.upd (S := fun _ => False) (by decide) (by decide) (Upd.box (.cells #[.int .i64 x.f0, .string x.f1.f0, .int .i64 x.f1.f1.f0, .int .i64 x.f1.f1.f1, .string x.f1.f1.f2, .slice D5 x.f1.f1.f3.length e5', .slice D6 x.f1.f2.length e6'] 35)))
        have HU9b := Lib.hid (HU9.out.then HUb.out)
        clear HTK HU9 HUb HL9 HF17
        generalize wt.alloc (.cells #[.int .i64 x.f0, .string x.f1.f0, .int .i64 x.f1.f1.f0, .int .i64 x.f1.f1.f1, .string x.f1.f1.f2, .slice D5 x.f1.f1.f3.length e5', .slice D6 x.f1.f2.length e6'] 35) = wb at *
        generalize wt.heap.size = bx at *
        have HU8b := Lib.hid (HU.out.then HU9b.out)
        have hq0 : wb.cell? ⟨bx, 0, none⟩ = some (.int .i64 x.f0) := blk_at HE.out 0 rfl
        go_upto_if 94 with (fail)
        obtain ⟨h2, hh2⟩ : ∃ h2, h2 = recsX (L.drop (k + 1)) := ⟨_, rfl⟩
        have H2 := Lib.hid hh2
        clear hh2
        go_cut [11] (fun v11 wx => v11 = .int .i64 h2 ∧ wx = wb)
        case first =>
          by_cases hz : x.f0 = 0
          · have k1 : (x.f0 == 0) = true := by simp [hz]
            have He : h - 1 = h2 := by have := Hhn.out; rw [if_pos hz] at this; rw [HH.out, this, H2.out]; omega
            rw [k1]
            clear hz
            go_wp2_with (fail)
            go_meet
            exact ⟨by first | rfl | rw [He], rfl⟩
          · have k1 : (x.f0 == 0) = false := by simp [hz]
            have He : h = h2 := by have := Hhn.out; rw [if_neg hz] at this; rw [HH.out, this, H2.out]; omega
            rw [k1]
            clear hz
            go_wp2_with (fail)
            go_meet
            exact ⟨by first | rfl | rw [He], rfl⟩
        case rest =>
        obtain ⟨rfl, rfl⟩ := hcut
        obtain ⟨wb, rfl⟩ : ∃ w : World, w = wc := ⟨_, rfl⟩
        clear Hhn hbb
        obtain ⟨t1, t2, t3, t4⟩ := St35_open (HSX.out.upd (S := (· = 1)) (by decide) HU9b.out)
        by_cases hkn : k < nr
        · have hxi : x = item0 (rd_T33 rs (k : Int)) := by
            have hk' : k < rs.length := by rw [← Hnr.out]; exact hkn
            have h1 : L[k]? = some x := by rw [Hx.out, List.getElem?_eq_getElem HkL.out]
            rw [HLL.out, List.getElem?_append_left (by rw [List.length_map]; exact hk'), List.getElem?_map, List.getElem?_eq_getElem hk'] at h1
            unfold rd_T33
            rw [Int.toNat_natCast, List.getD_eq_getElem?_getD, List.getElem?_eq_getElem hk']
            exact (Option.some.inj h1).symm
          have Hx0 : Hid (x.f0 = 0) := Lib.hid (by rw [hxi]; rfl)
          have Hrd : Hid (rd_T33 rs (k : Int) = x.f1) := Lib.hid (by rw [hxi]; rfl)
          clear hxi
          have hcr := (HD6.out.upd (S := (· = 1)) (by decide) HU8b.out).now
          obtain ⟨adr, F4, g4, F5, g5, hAr, b0, b1, b2, b3, b4, b5, hl4', hC4, hl5', hC5⟩ := at_T33 hcr (k : Int) (by omega) (by omega)
          rw [Hrd.out] at b0 b1 b2 b3 b4 b5 hl4' hC4 hl5' hC5
          rw [Int.toNat_natCast] at b0 b1 b2 b3 b4 b5
          have HSAME : Hid (∀ W : World, PLift (Below wb.heap.size wb W) → Calls Try.prog 13 #[.agg #[.string x.f1.f0, .int .i64 x.f1.f1.f0, .int .i64 x.f1.f1.f1, .string x.f1.f1.f2, .slice D5 x.f1.f1.f3.length e5', .slice D6 x.f1.f2.length e6'], .agg #[.string x.f1.f0, .int .i64 x.f1.f1.f0, .int .i64 x.f1.f1.f1, .string x.f1.f1.f2, .slice F4 x.f1.f1.f3.length g4, .slice F5 x.f1.f2.length g5]] W fun e w' => e = .returned (.bool true) ∧ Hid (Below W.heap.size W w')) := Lib.hid (fun W hW => same13 x.f1 D5 D6 F4 F5 e5' e6' g4 g5 W (Kd.C_below t2.now hW.down) t1 (Kd.C_below t4.now hW.down) t3 (Kd.C_below hC4 hW.down) hl4' (Kd.C_below hC5 hW.down) hl5' Hpx.out)
          have hb0 : wb.cell? ⟨bx, 0, none⟩ = some (.int .i64 0) := by
            have := hq0
            rw [Hx0.out] at this
            exact this
          subst hAr
          clear hcr hC4 hC5 hl4' hl5' t1 t2 t3 t4 hq0
          have hk2 : ¬ nr ≤ k := by omega
          have k2 : decide ((nr : Int) ≤ (k : Int)) = false := decide_eq_false (by omega)
          go_upto_region 29 with (fail)
          refine start_ (n := 19) (S := (fun w' => w'.cell? ⟨bx, 0, none⟩ = some (.int .i64 0) ∧ w'.cell? ⟨bx, 1, none⟩ = some (.string x.f1.f0) ∧ w'.cell? ⟨bx, 2, none⟩ = some (.int .i64 x.f1.f1.f0) ∧ w'.cell? ⟨bx, 3, none⟩ = some (.int .i64 x.f1.f1.f1) ∧ w'.cell? ⟨bx, 4, none⟩ = some (.string x.f1.f1.f2) ∧ w'.cell? ⟨bx, 5, none⟩ = some (.slice D5 x.f1.f1.f3.length e5') ∧ w'.cell? ⟨bx, 6, none⟩ = some (.slice D6 x.f1.f2.length e6') ∧ w'.cell? (adr.add (k * 6)) = some (.string x.f1.f0) ∧ w'.cell? ⟨(adr.add (k * 6)).block, (adr.add (k * 6)).off + 1, none⟩ = some (.int .i64 x.f1.f1.f0) ∧ w'.cell? ⟨(adr.add (k * 6)).block, (adr.add (k * 6)).off + 2, none⟩ = some (.int .i64 x.f1.f1.f1) ∧ w'.cell? ⟨(adr.add (k * 6)).block, (adr.add (k * 6)).off + 3, none⟩ = some (.string x.f1.f1.f2) ∧ w'.cell? ⟨(adr.add (k * 6)).block, (adr.add (k * 6)).off + 4, none⟩ = some (.slice F4 x.f1.f1.f3.length g4) ∧ w'.cell? ⟨(adr.add (k * 6)).block, (adr.add (k * 6)).off + 5, none⟩ = some (.slice F5 x.f1.f2.length g5))) (ds := []) #[false, false, false, false, false, false, false, false, false, false, false, false, false, false, false, false, false, false, false] (by kernel_rfl) rfl rfl ⟨(show wb.drew.cell? _ = _ from hb0), (show wb.drew.cell? _ = _ from blk_at HE.out 1 rfl), (show wb.drew.cell? _ = _ from blk_at HE.out 2 rfl), (show wb.drew.cell? _ = _ from blk_at HE.out 3 rfl), (show wb.drew.cell? _ = _ from blk_at HE.out 4 rfl), (show wb.drew.cell? _ = _ from blk_at HE.out 5 rfl), (show wb.drew.cell? _ = _ from blk_at HE.out 6 rfl), (show wb.drew.cell? _ = _ from b0), (show wb.drew.cell? _ = _ from b1), (show wb.drew.cell? _ = _ from b2), (show wb.drew.cell? _ = _ from b3), (show wb.drew.cell? _ = _ from b4), (show wb.drew.cell? _ = _ from b5)⟩ (fun hHeld => ?_)
          have HBo : Hid (Below wb.heap.size wb wb.drew) := Lib.hid (Below.refl _ _).drew
          generalize wb.drew = Wa at hHeld HBo ⊢
          refine pure_ (i := 0) (N := some 97) (v := ?_) (a' := ?_) #[true, false, false, false, false, false, false, false, false, false, false, false, false, false, false, false, false, false, false] rfl rfl (by kernel_rfl) (fun _ _ _ h => h) (Or.inl ⟨by rfl, ?_⟩) ?_ ?_
          rotate_left
          · intro w'
            go_simp
            with_reducible rfl
          rotate_left
          · simp only [Act.put, List.setIfInBounds_toArray, List.set_cons_zero, List.set_cons_succ]
            rfl
          refine pure_ (i := 1) (N := some 98) (v := ?_) (a' := ?_) #[true, true, false, false, false, false, false, false, false, false, false, false, false, false, false, false, false, false, false] rfl rfl (by kernel_rfl) (fun _ _ _ h => h) (Or.inl ⟨by rfl, ?_⟩) ?_ ?_
          rotate_left
          · intro w'
            go_simp
            with_reducible rfl
          rotate_left
          · simp only [Act.put, List.setIfInBounds_toArray, List.set_cons_zero, List.set_cons_succ]
            rfl
          refine pure_ (i := 2) (N := some 99) (v := ?_) (a' := ?_) #[true, true, true, false, false, false, false, false, false, false, false, false, false, false, false, false, false, false, false] rfl rfl (by kernel_rfl) (fun _ _ _ h => h) (Or.inl ⟨by rfl, ?_⟩) ?_ ?_
          rotate_left
          · intro w'
            go_simp
            with_reducible rfl
          rotate_left
          · simp only [Act.put, List.setIfInBounds_toArray, List.set_cons_zero, List.set_cons_succ]
            rfl
          refine pure_ (i := 3) (N := some 100) (v := ?_) (a' := ?_) #[true, true, true, true, false, false, false, false, false, false, false, false, false, false, false, false, false, false, false] rfl rfl (by kernel_rfl) (fun _ _ _ h => h) (Or.inl ⟨by rfl, ?_⟩) ?_ ?_
          rotate_left
          · intro w'
            go_simp
            with_reducible rfl
          rotate_left
          · simp only [Act.put, List.setIfInBounds_toArray, List.set_cons_zero, List.set_cons_succ]
            rfl
          refine pure_ (i := 4) (N := some 101) (v := ?_) (a' := ?_) #[true, true, true, true, true, false, false, false, false, false, false, false, false, false, false, false, false, false, false] rfl rfl (by kernel_rfl) (fun _ _ _ h => h) (Or.inl ⟨by rfl, ?_⟩) ?_ ?_
          rotate_left
          · intro w'
            go_simp
            with_reducible rfl
          rotate_left
          · simp only [Act.put, List.setIfInBounds_toArray, List.set_cons_zero, List.set_cons_succ]
            rfl
          refine pure_ (i := 5) (N := some 102) (v := ?_) (a' := ?_) #[true, true, true, true, true, true, false, false, false, false, false, false, false, false, false, false, false, false, false] rfl rfl (by kernel_rfl) (fun _ _ _ h => h) (Or.inl ⟨by rfl, ?_⟩) ?_ ?_
          rotate_left
          · intro w'
            go_simp
            with_reducible rfl
          rotate_left
          · simp only [Act.put, List.setIfInBounds_toArray, List.set_cons_zero, List.set_cons_succ]
            rfl
          refine take_ (i := 6) (N := some 103) (v := ?_) (a' := ?_) #[true, true, true, true, true, true, true, false, false, false, false, false, false, false, false, false, false, false, false] rfl rfl (by kernel_rfl) (fun _ _ _ h => h) (Or.inl ⟨by rfl, ?_⟩) hHeld ?_ ?_
          rotate_left
          · rintro w' ⟨s0, s1, s2, s3, s4, s5, s6, s7, s8, s9, s10, s11, s12⟩
            go_simp
            with_reducible rfl
          rotate_left
          · simp only [Act.put, List.setIfInBounds_toArray, List.set_cons_zero, List.set_cons_succ]
            rfl
          refine pure_ (i := 7) (N := some 104) (v := ?_) (a' := ?_) #[true, true, true, true, true, true, true, true, false, false, false, false, false, false, false, false, false, false, false] rfl rfl (by kernel_rfl) (fun _ _ _ h => h) (Or.inl ⟨by rfl, ?_⟩) ?_ ?_
          rotate_left
          · intro w'
            go_simp
            with_reducible rfl
          rotate_left
          · simp only [Act.put, List.setIfInBounds_toArray, List.set_cons_zero, List.set_cons_succ]
            rfl
          refine pure_ (i := 8) (N := some 105) (v := ?_) (a' := ?_) #[true, true, true, true, true, true, true, true, true, false, false, false, false, false, false, false, false, false, false] rfl rfl (by kernel_rfl) (fun _ _ _ h => h) (Or.inl ⟨by rfl, ?_⟩) ?_ ?_
          rotate_left
          · intro w'
            go_simp
            with_reducible rfl
          rotate_left
          · simp only [Act.put, List.setIfInBounds_toArray, List.set_cons_zero, List.set_cons_succ]
            rfl
          refine pure_ (i := 9) (N := some 106) (v := ?_) (a' := ?_) #[true, true, true, true, true, true, true, true, true, true, false, false, false, false, false, false, false, false, false] rfl rfl (by kernel_rfl) (fun _ _ _ h => h) (Or.inl ⟨by rfl, ?_⟩) ?_ ?_
          rotate_left
          · intro w'
            go_simp
            with_reducible rfl
          rotate_left
          · simp only [Act.put, List.setIfInBounds_toArray, List.set_cons_zero, List.set_cons_succ]
            rfl
          refine take_ (i := 10) (N := some 107) (v := ?_) (a' := ?_) #[true, true, true, true, true, true, true, true, true, true, true, false, false, false, false, false, false, false, false] rfl rfl (by kernel_rfl) (fun _ _ _ h => h) (Or.inl ⟨by rfl, ?_⟩) hHeld ?_ ?_
          rotate_left
          · rintro w' ⟨s0, s1, s2, s3, s4, s5, s6, s7, s8, s9, s10, s11, s12⟩
            go_simp
            with_reducible rfl
          rotate_left
          · simp only [Act.put, List.setIfInBounds_toArray, List.set_cons_zero, List.set_cons_succ]
            rfl
          refine pure_ (i := 11) (N := some 108) (v := ?_) (a' := ?_) #[true, true, true, true, true, true, true, true, true, true, true, true, false, false, false, false, false, false, false] rfl rfl (by kernel_rfl) (fun _ _ _ h => h) (Or.inl ⟨by rfl, ?_⟩) ?_ ?_
          rotate_left
          · intro w'
            go_simp
            with_reducible rfl
          rotate_left
          · simp only [Act.put, List.setIfInBounds_toArray, List.set_cons_zero, List.set_cons_succ]
            rfl
          refine pure_ (i := 12) (N := some 109) (v := ?_) (a' := ?_) #[true, true, true, true, true, true, true, true, true, true, true, true, true, false, false, false, false, false, false] rfl rfl (by kernel_rfl) (fun _ _ _ h => h) (Or.inl ⟨by rfl, ?_⟩) ?_ ?_
          rotate_left
          · intro w'
            go_simp
            with_reducible rfl
          rotate_left
          · simp only [Act.put, List.setIfInBounds_toArray, List.set_cons_zero, List.set_cons_succ]
            rfl
          refine pure_ (i := 13) (N := some 110) (v := ?_) (a' := ?_) #[true, true, true, true, true, true, true, true, true, true, true, true, true, true, false, false, false, false, false] rfl rfl (by kernel_rfl) (fun _ _ _ h => h) (Or.inl ⟨by rfl, ?_⟩) ?_ ?_
          rotate_left
          · intro w'
            go_simp
            with_reducible rfl
          rotate_left
          · simp only [Act.put, List.setIfInBounds_toArray, List.set_cons_zero, List.set_cons_succ]
            rfl
          refine take_ (i := 14) (N := some 111) (v := ?_) (a' := ?_) #[true, true, true, true, true, true, true, true, true, true, true, true, true, true, true, false, false, false, false] rfl rfl (by kernel_rfl) (fun _ _ _ h => h) (Or.inl ⟨by rfl, ?_⟩) hHeld ?_ ?_
          rotate_left
          · rintro w' ⟨s0, s1, s2, s3, s4, s5, s6, s7, s8, s9, s10, s11, s12⟩
            go_simp
            with_reducible rfl
          rotate_left
          · simp only [Act.put, List.setIfInBounds_toArray, List.set_cons_zero, List.set_cons_succ]
            rfl
          refine one_ (i := 15) (N := some 112) #[true, true, true, true, true, true, true, true, true, true, true, true, true, true, true, true, false, false, false] rfl rfl (by kernel_rfl) (by decide) (fun K hK => ?_)
          refine goes_ Try.func13 (by kernel_rfl) rfl #[.agg #[.string x.f1.f0, .int .i64 x.f1.f1.f0, .int .i64 x.f1.f1.f1, .string x.f1.f1.f2, .slice D5 x.f1.f1.f3.length e5', .slice D6 x.f1.f2.length e6'], .agg #[.string x.f1.f0, .int .i64 x.f1.f1.f0, .int .i64 x.f1.f1.f1, .string x.f1.f1.f2, .slice F4 x.f1.f1.f3.length g4, .slice F5 x.f1.f2.length g5]] (by rfl) rfl rfl (by simp only [List.map_toArray, List.map_cons, List.map_nil]; rfl) ?_
          refine (HSAME.out Wa ⟨HBo.out⟩).mono ?_
          rintro e w11 ⟨rfl, HB11a⟩
          have HB11 : Hid (Below wb.heap.size wb w11) := Lib.hid (HBo.out.trans (HB11a.out.mono HBo.out.size))
          refine ⟨_, rfl, ?_⟩
          refine hK.out _ _ ⟨pw_cell_below HB11a.out hHeld.1, pw_cell_below HB11a.out hHeld.2.1, pw_cell_below HB11a.out hHeld.2.2.1, pw_cell_below HB11a.out hHeld.2.2.2.1, pw_cell_below HB11a.out hHeld.2.2.2.2.1, pw_cell_below HB11a.out hHeld.2.2.2.2.2.1, pw_cell_below HB11a.out hHeld.2.2.2.2.2.2.1, pw_cell_below HB11a.out hHeld.2.2.2.2.2.2.2.1, pw_cell_below HB11a.out hHeld.2.2.2.2.2.2.2.2.1, pw_cell_below HB11a.out hHeld.2.2.2.2.2.2.2.2.2.1, pw_cell_below HB11a.out hHeld.2.2.2.2.2.2.2.2.2.2.1, pw_cell_below HB11a.out hHeld.2.2.2.2.2.2.2.2.2.2.2.1, pw_cell_below HB11a.out hHeld.2.2.2.2.2.2.2.2.2.2.2.2⟩ (fun hHeld => ?_)
          clear hK K
          refine norm_ (a' := ?_) ?_ ?_
          rotate_left
          · show Act.put _ (some 112) _ = _
            simp only [Act.put, List.setIfInBounds_toArray, List.set_cons_zero, List.set_cons_succ]
            rfl
          refine pure_ (i := 16) (N := some 113) (v := ?_) (a' := ?_) #[true, true, true, true, true, true, true, true, true, true, true, true, true, true, true, true, true, false, false] rfl rfl (by kernel_rfl) (fun _ _ _ h => h) (Or.inl ⟨by rfl, ?_⟩) ?_ ?_
          rotate_left
          · intro w'
            go_simp
            with_reducible rfl
          rotate_left
          · simp only [Act.put, List.setIfInBounds_toArray, List.set_cons_zero, List.set_cons_succ]
            rfl
          refine pure_ (i := 17) (N := some 114) (v := ?_) (a' := ?_) #[true, true, true, true, true, true, true, true, true, true, true, true, true, true, true, true, true, true, false] rfl rfl (by kernel_rfl) (fun _ _ _ h => h) (Or.inl ⟨by rfl, ?_⟩) ?_ ?_
          rotate_left
          · intro w'
            go_simp
            with_reducible rfl
          rotate_left
          · simp only [Act.put, List.setIfInBounds_toArray, List.set_cons_zero, List.set_cons_succ]
            rfl
          refine pure_ (i := 18) (N := some 115) (v := ?_) (a' := ?_) #[true, true, true, true, true, true, true, true, true, true, true, true, true, true, true, true, true, true, true] rfl rfl (by kernel_rfl) (fun _ _ _ h => h) (Or.inl ⟨by rfl, ?_⟩) ?_ ?_
          rotate_left
          · intro w'
            go_simp
            with_reducible rfl
          rotate_left
          · simp only [Act.put, List.setIfInBounds_toArray, List.set_cons_zero, List.set_cons_succ]
            rfl
          refine done_ (by kernel_rfl) ?_
          clear hHeld
          go_upto_region 31 with (fail)
          refine start_ (n := 16) (S := (fun _ => True)) (ds := []) #[false, false, false, false, false, false, false, false, false, false, false, false, false, false, false, false] (by kernel_rfl) rfl rfl trivial (fun hHeld => ?_)
          have HB12 : Hid (Below wb.heap.size wb w11.drew) := Lib.hid (HB11.out.trans ((Below.refl _ _).drew.mono HB11.out.size))
          generalize w11.drew = Wb at hHeld HB12 ⊢
          refine pure_ (i := 0) (N := some 116) (v := ?_) (a' := ?_) #[true, false, false, false, false, false, false, false, false, false, false, false, false, false, false, false] rfl rfl (by kernel_rfl) (fun _ _ _ h => h) (Or.inl ⟨by rfl, ?_⟩) ?_ ?_
          rotate_left
          · intro w'
            go_simp
            with_reducible rfl
          rotate_left
          · simp only [Act.put, List.setIfInBounds_toArray, List.set_cons_zero, List.set_cons_succ]
            rfl
          refine pure_ (i := 1) (N := some 117) (v := ?_) (a' := ?_) #[true, true, false, false, false, false, false, false, false, false, false, false, false, false, false, false] rfl rfl (by kernel_rfl) (fun _ _ _ h => h) (Or.inl ⟨by rfl, ?_⟩) ?_ ?_
          rotate_left
          · intro w'
            go_simp
            with_reducible rfl
          rotate_left
          · simp only [Act.put, List.setIfInBounds_toArray, List.set_cons_zero, List.set_cons_succ]
            rfl
          refine pure_ (i := 2) (N := some 118) (v := ?_) (a' := ?_) #[true, true, true, false, false, false, false, false, false, false, false, false, false, false, false, false] rfl rfl (by kernel_rfl) (fun _ _ _ h => h) (Or.inl ⟨by rfl, ?_⟩) ?_ ?_
          rotate_left
          · intro w'
            go_simp
            with_reducible rfl
          rotate_left
          · simp only [Act.put, List.setIfInBounds_toArray, List.set_cons_zero, List.set_cons_succ]
            rfl
          refine pure_ (i := 3) (N := some 119) (v := ?_) (a' := ?_) #[true, true, true, true, false, false, false, false, false, false, false, false, false, false, false, false] rfl rfl (by kernel_rfl) (fun _ _ _ h => h) (Or.inl ⟨by rfl, ?_⟩) ?_ ?_
          rotate_left
          · intro w'
            go_simp
            with_reducible rfl
          rotate_left
          · simp only [Act.put, List.setIfInBounds_toArray, List.set_cons_zero, List.set_cons_succ]
            rfl
          refine pure_ (i := 4) (N := some 120) (v := ?_) (a' := ?_) #[true, true, true, true, true, false, false, false, false, false, false, false, false, false, false, false] rfl rfl (by kernel_rfl) (fun _ _ _ h => h) (Or.inl ⟨by rfl, ?_⟩) ?_ ?_
          rotate_left
          · intro w'
            go_simp
            with_reducible rfl
          rotate_left
          · simp only [Act.put, List.setIfInBounds_toArray, List.set_cons_zero, List.set_cons_succ]
            rfl
          refine pure_ (i := 5) (N := some 121) (v := undef) (a' := ?_) #[true, true, true, true, true, true, false, false, false, false, false, false, false, false, false, false] rfl rfl (by kernel_rfl) (fun _ _ _ h => h) (Or.inr ⟨by rfl, rfl⟩) ?_ ?_
          rotate_left
          · simp only [Act.put, List.setIfInBounds_toArray, List.set_cons_zero, List.set_cons_succ]
            rfl
          refine pure_ (i := 6) (N := some 122) (v := undef) (a' := ?_) #[true, true, true, true, true, true, true, false, false, false, false, false, false, false, false, false] rfl rfl (by kernel_rfl) (fun _ _ _ h => h) (Or.inr ⟨by rfl, rfl⟩) ?_ ?_
          rotate_left
          · simp only [Act.put, List.setIfInBounds_toArray, List.set_cons_zero, List.set_cons_succ]
            rfl
          refine pure_ (i := 7) (N := some 123) (v := undef) (a' := ?_) #[true, true, true, true, true, true, true, true, false, false, false, false, false, false, false, false] rfl rfl (by kernel_rfl) (fun _ _ _ h => h) (Or.inr ⟨by rfl, rfl⟩) ?_ ?_
          rotate_left
          · simp only [Act.put, List.setIfInBounds_toArray, List.set_cons_zero, List.set_cons_succ]
            rfl
          refine pure_ (i := 8) (N := some 124) (v := undef) (a' := ?_) #[true, true, true, true, true, true, true, true, true, false, false, false, false, false, false, false] rfl rfl (by kernel_rfl) (fun _ _ _ h => h) (Or.inr ⟨by rfl, rfl⟩) ?_ ?_
          rotate_left
          · simp only [Act.put, List.setIfInBounds_toArray, List.set_cons_zero, List.set_cons_succ]
            rfl
          refine pure_ (i := 9) (N := some 125) (v := undef) (a' := ?_) #[true, true, true, true, true, true, true, true, true, true, false, false, false, false, false, false] rfl rfl (by kernel_rfl) (fun _ _ _ h => h) (Or.inr ⟨by rfl, rfl⟩) ?_ ?_
          rotate_left
          · simp only [Act.put, List.setIfInBounds_toArray, List.set_cons_zero, List.set_cons_succ]
            rfl
          refine pure_ (i := 10) (N := some 126) (v := undef) (a' := ?_) #[true, true, true, true, true, true, true, true, true, true, true, false, false, false, false, false] rfl rfl (by kernel_rfl) (fun _ _ _ h => h) (Or.inr ⟨by rfl, rfl⟩) ?_ ?_
          rotate_left
          · simp only [Act.put, List.setIfInBounds_toArray, List.set_cons_zero, List.set_cons_succ]
            rfl
          refine pure_ (i := 11) (N := some 127) (v := undef) (a' := ?_) #[true, true, true, true, true, true, true, true, true, true, true, true, false, false, false, false] rfl rfl (by kernel_rfl) (fun _ _ _ h => h) (Or.inr ⟨by rfl, rfl⟩) ?_ ?_
          rotate_left
          · simp only [Act.put, List.setIfInBounds_toArray, List.set_cons_zero, List.set_cons_succ]
            rfl
          refine pure_ (i := 12) (N := some 128) (v := undef) (a' := ?_) #[true, true, true, true, true, true, true, true, true, true, true, true, true, false, false, false] rfl rfl (by kernel_rfl) (fun _ _ _ h => h) (Or.inr ⟨by rfl, rfl⟩) ?_ ?_
          rotate_left
          · simp only [Act.put, List.setIfInBounds_toArray, List.set_cons_zero, List.set_cons_succ]
            rfl
          refine pure_ (i := 13) (N := some 129) (v := undef) (a' := ?_) #[true, true, true, true, true, true, true, true, true, true, true, true, true, true, false, false] rfl rfl (by kernel_rfl) (fun _ _ _ h => h) (Or.inr ⟨by rfl, rfl⟩) ?_ ?_
          rotate_left
          · simp only [Act.put, List.setIfInBounds_toArray, List.set_cons_zero, List.set_cons_succ]
            rfl
          refine pure_ (i := 14) (N := some 130) (v := undef) (a' := ?_) #[true, true, true, true, true, true, true, true, true, true, true, true, true, true, true, false] rfl rfl (by kernel_rfl) (fun _ _ _ h => h) (Or.inr ⟨by rfl, rfl⟩) ?_ ?_
          rotate_left
          · simp only [Act.put, List.setIfInBounds_toArray, List.set_cons_zero, List.set_cons_succ]
            rfl
          refine pure_ (i := 15) (N := some 131) (v := ?_) (a' := ?_) #[true, true, true, true, true, true, true, true, true, true, true, true, true, true, true, true] rfl rfl (by kernel_rfl) (fun _ _ _ h => h) (Or.inl ⟨by rfl, ?_⟩) ?_ ?_
          rotate_left
          · intro w'
            go_simp
            with_reducible rfl
          rotate_left
          · simp only [Act.put, List.setIfInBounds_toArray, List.set_cons_zero, List.set_cons_succ]
            rfl
          refine done_ (by kernel_rfl) ?_
          clear hHeld
          go_wp2_with (fail)
          go_roundw
          case rel => exact ⟨k + 1, h2, lk, own9, c10, cap10, s10, r10, by omega, by go_num, rfl, H2, Hdr, Lib.hid (HL10.out.upd (S := fun _ => False) (by decide) (by decide) (Upd.of_below' HB12.out (fun _ _ => rfl))), Lib.hid (HU8b.out.then (Upd.of_below' HB12.out (fun _ _ => rfl)))⟩
          case measure => simp [intOf]; omega
        · obtain ⟨kk, hkk⟩ : ∃ kk, kk = k - nr := ⟨_, rfl⟩
          have hik : (k : Int) - (nr : Int) = (kk : Int) := by omega
          have hkm : kk < m := by omega
          have hxi : xs[kk]? = some x := by
            have h1 : L[k]? = some x := by rw [Hx.out, List.getElem?_eq_getElem HkL.out]
            rw [HLL.out, List.getElem?_append_right (by rw [List.length_map, ← Hnr.out]; omega), List.length_map, ← Hnr.out, ← hkk] at h1
            exact h1
          obtain ⟨adr, y, F4, g4, F5, g5, rfl, hy, hsy, b0, b1, b2, b3, b4, b5, b6⟩ := at_pk (StC_pk_upd HW6.out (S := (· = 1)) (by decide) HU8b.out).now kk (by rw [hl5m]; exact hkm)
          have hyx : y = x := by
            have h1 : (l5.map (·.1))[kk]? = some y := by rw [List.getElem?_map, List.getElem?_eq_getElem (by rw [hl5m]; exact hkm), hy]; rfl
            rw [Hl5.out, hxi] at h1
            exact (Option.some.inj h1).symm
          rw [hyx] at b0 b1 b2 b3 b4 b5 b6 hsy
          obtain ⟨u1, u2, u3, u4⟩ := St35_open hsy
          have HSAME : Hid (∀ W : World, PLift (Below wb.heap.size wb W) → Calls Try.prog 18 #[.agg #[.int .i64 x.f0, .string x.f1.f0, .int .i64 x.f1.f1.f0, .int .i64 x.f1.f1.f1, .string x.f1.f1.f2, .slice D5 x.f1.f1.f3.length e5', .slice D6 x.f1.f2.length e6'], .agg #[.int .i64 x.f0, .string x.f1.f0, .int .i64 x.f1.f1.f0, .int .i64 x.f1.f1.f1, .string x.f1.f1.f2, .slice F4 x.f1.f1.f3.length g4, .slice F5 x.f1.f2.length g5]] W fun e w' => e = .returned (.bool true) ∧ Hid (Below W.heap.size W w')) := Lib.hid (fun W hW => same18 x D5 D6 F4 F5 e5' e6' g4 g5 W (Kd.C_below t2.now hW.down) t1 (Kd.C_below t4.now hW.down) t3 (Kd.C_below u2.now hW.down) u1 (Kd.C_below u4.now hW.down) u3 Hpx.out)
          clear hxi hy hyx hsy hkk t1 t2 t3 t4 u1 u2 u3 u4
          have hk2 : nr ≤ k := by omega
          have hwk : IntKind.i64.wrap (kk : Int) = (kk : Int) := by rw [IntKind.wrap_i64]; omega
          have k2 : decide ((nr : Int) ≤ (k : Int)) = true := decide_eq_true (by omega)
          go_upto_region 29 with (fail)
          refine start_ (n := 19) (S := (fun _ => True)) (ds := []) #[false, false, false, false, false, false, false, false, false, false, false, false, false, false, false, false, false, false, false] (by kernel_rfl) rfl rfl trivial (fun hHeld => ?_)
          have HBa : Hid (Below wb.heap.size wb wb.drew) := Lib.hid (Below.refl _ _).drew
          generalize wb.drew = Wa at hHeld HBa ⊢
          refine pure_ (i := 0) (N := some 97) (v := ?_) (a' := ?_) #[true, false, false, false, false, false, false, false, false, false, false, false, false, false, false, false, false, false, false] rfl rfl (by kernel_rfl) (fun _ _ _ h => h) (Or.inl ⟨by rfl, ?_⟩) ?_ ?_
          rotate_left
          · intro w'
            go_simp
            with_reducible rfl
          rotate_left
          · simp only [Act.put, List.setIfInBounds_toArray, List.set_cons_zero, List.set_cons_succ]
            rfl
          refine pure_ (i := 1) (N := some 98) (v := ?_) (a' := ?_) #[true, true, false, false, false, false, false, false, false, false, false, false, false, false, false, false, false, false, false] rfl rfl (by kernel_rfl) (fun _ _ _ h => h) (Or.inl ⟨by rfl, ?_⟩) ?_ ?_
          rotate_left
          · intro w'
            go_simp
            with_reducible rfl
          rotate_left
          · simp only [Act.put, List.setIfInBounds_toArray, List.set_cons_zero, List.set_cons_succ]
            rfl
          refine pure_ (i := 2) (N := some 99) (v := ?_) (a' := ?_) #[true, true, true, false, false, false, false, false, false, false, false, false, false, false, false, false, false, false, false] rfl rfl (by kernel_rfl) (fun _ _ _ h => h) (Or.inl ⟨by rfl, ?_⟩) ?_ ?_
          rotate_left
          · intro w'
            go_simp
            with_reducible rfl
          rotate_left
          · simp only [Act.put, List.setIfInBounds_toArray, List.set_cons_zero, List.set_cons_succ]
            rfl
          refine pure_ (i := 3) (N := some 100) (v := ?_) (a' := ?_) #[true, true, true, true, false, false, false, false, false, false, false, false, false, false, false, false, false, false, false] rfl rfl (by kernel_rfl) (fun _ _ _ h => h) (Or.inl ⟨by rfl, ?_⟩) ?_ ?_
          rotate_left
          · intro w'
            go_simp
            with_reducible rfl
          rotate_left
          · simp only [Act.put, List.setIfInBounds_toArray, List.set_cons_zero, List.set_cons_succ]
            rfl
          refine pure_ (i := 4) (N := some 101) (v := ?_) (a' := ?_) #[true, true, true, true, true, false, false, false, false, false, false, false, false, false, false, false, false, false, false] rfl rfl (by kernel_rfl) (fun _ _ _ h => h) (Or.inl ⟨by rfl, ?_⟩) ?_ ?_
          rotate_left
          · intro w'
            go_simp
            with_reducible rfl
          rotate_left
          · simp only [Act.put, List.setIfInBounds_toArray, List.set_cons_zero, List.set_cons_succ]
            rfl
          refine pure_ (i := 5) (N := some 102) (v := undef) (a' := ?_) #[true, true, true, true, true, true, false, false, false, false, false, false, false, false, false, false, false, false, false] rfl rfl (by kernel_rfl) (fun _ _ _ h => h) (Or.inr ⟨by rfl, rfl⟩) ?_ ?_
          rotate_left
          · simp only [Act.put, List.setIfInBounds_toArray, List.set_cons_zero, List.set_cons_succ]
            rfl
          refine pure_ (i := 6) (N := some 103) (v := undef) (a' := ?_) #[true, true, true, true, true, true, true, false, false, false, false, false, false, false, false, false, false, false, false] rfl rfl (by kernel_rfl) (fun _ _ _ h => h) (Or.inr ⟨by rfl, rfl⟩) ?_ ?_
          rotate_left
          · simp only [Act.put, List.setIfInBounds_toArray, List.set_cons_zero, List.set_cons_succ]
            rfl
          refine pure_ (i := 7) (N := some 104) (v := undef) (a' := ?_) #[true, true, true, true, true, true, true, true, false, false, false, false, false, false, false, false, false, false, false] rfl rfl (by kernel_rfl) (fun _ _ _ h => h) (Or.inr ⟨by rfl, rfl⟩) ?_ ?_
          rotate_left
          · simp only [Act.put, List.setIfInBounds_toArray, List.set_cons_zero, List.set_cons_succ]
            rfl
          refine pure_ (i := 8) (N := some 105) (v := undef) (a' := ?_) #[true, true, true, true, true, true, true, true, true, false, false, false, false, false, false, false, false, false, false] rfl rfl (by kernel_rfl) (fun _ _ _ h => h) (Or.inr ⟨by rfl, rfl⟩) ?_ ?_
          rotate_left
          · simp only [Act.put, List.setIfInBounds_toArray, List.set_cons_zero, List.set_cons_succ]
            rfl
          refine pure_ (i := 9) (N := some 106) (v := undef) (a' := ?_) #[true, true, true, true, true, true, true, true, true, true, false, false, false, false, false, false, false, false, false] rfl rfl (by kernel_rfl) (fun _ _ _ h => h) (Or.inr ⟨by rfl, rfl⟩) ?_ ?_
          rotate_left
          · simp only [Act.put, List.setIfInBounds_toArray, List.set_cons_zero, List.set_cons_succ]
            rfl
          refine pure_ (i := 10) (N := some 107) (v := undef) (a' := ?_) #[true, true, true, true, true, true, true, true, true, true, true, false, false, false, false, false, false, false, false] rfl rfl (by kernel_rfl) (fun _ _ _ h => h) (Or.inr ⟨by rfl, rfl⟩) ?_ ?_
          rotate_left
          · simp only [Act.put, List.setIfInBounds_toArray, List.set_cons_zero, List.set_cons_succ]
            rfl
          refine pure_ (i := 11) (N := some 108) (v := undef) (a' := ?_) #[true, true, true, true, true, true, true, true, true, true, true, true, false, false, false, false, false, false, false] rfl rfl (by kernel_rfl) (fun _ _ _ h => h) (Or.inr ⟨by rfl, rfl⟩) ?_ ?_
          rotate_left
          · simp only [Act.put, List.setIfInBounds_toArray, List.set_cons_zero, List.set_cons_succ]
            rfl
          refine pure_ (i := 12) (N := some 109) (v := undef) (a' := ?_) #[true, true, true, true, true, true, true, true, true, true, true, true, true, false, false, false, false, false, false] rfl rfl (by kernel_rfl) (fun _ _ _ h => h) (Or.inr ⟨by rfl, rfl⟩) ?_ ?_
          rotate_left
          · simp only [Act.put, List.setIfInBounds_toArray, List.set_cons_zero, List.set_cons_succ]
            rfl
          refine pure_ (i := 13) (N := some 110) (v := undef) (a' := ?_) #[true, true, true, true, true, true, true, true, true, true, true, true, true, true, false, false, false, false, false] rfl rfl (by kernel_rfl) (fun _ _ _ h => h) (Or.inr ⟨by rfl, rfl⟩) ?_ ?_
          rotate_left
          · simp only [Act.put, List.setIfInBounds_toArray, List.set_cons_zero, List.set_cons_succ]
            rfl
          refine pure_ (i := 14) (N := some 111) (v := undef) (a' := ?_) #[true, true, true, true, true, true, true, true, true, true, true, true, true, true, true, false, false, false, false] rfl rfl (by kernel_rfl) (fun _ _ _ h => h) (Or.inr ⟨by rfl, rfl⟩) ?_ ?_
          rotate_left
          · simp only [Act.put, List.setIfInBounds_toArray, List.set_cons_zero, List.set_cons_succ]
            rfl
          refine pure_ (i := 15) (N := some 112) (v := undef) (a' := ?_) #[true, true, true, true, true, true, true, true, true, true, true, true, true, true, true, true, false, false, false] rfl rfl (by kernel_rfl) (fun _ _ _ h => h) (Or.inr ⟨by rfl, rfl⟩) ?_ ?_
          rotate_left
          · simp only [Act.put, List.setIfInBounds_toArray, List.set_cons_zero, List.set_cons_succ]
            rfl
          refine pure_ (i := 16) (N := some 113) (v := undef) (a' := ?_) #[true, true, true, true, true, true, true, true, true, true, true, true, true, true, true, true, true, false, false] rfl rfl (by kernel_rfl) (fun _ _ _ h => h) (Or.inr ⟨by rfl, rfl⟩) ?_ ?_
          rotate_left
          · simp only [Act.put, List.setIfInBounds_toArray, List.set_cons_zero, List.set_cons_succ]
            rfl
          refine pure_ (i := 17) (N := some 114) (v := undef) (a' := ?_) #[true, true, true, true, true, true, true, true, true, true, true, true, true, true, true, true, true, true, false] rfl rfl (by kernel_rfl) (fun _ _ _ h => h) (Or.inr ⟨by rfl, rfl⟩) ?_ ?_
          rotate_left
          · simp only [Act.put, List.setIfInBounds_toArray, List.set_cons_zero, List.set_cons_succ]
            rfl
          refine pure_ (i := 18) (N := some 115) (v := ?_) (a' := ?_) #[true, true, true, true, true, true, true, true, true, true, true, true, true, true, true, true, true, true, true] rfl rfl (by kernel_rfl) (fun _ _ _ h => h) (Or.inl ⟨by rfl, ?_⟩) ?_ ?_
          rotate_left
          · intro w'
            go_simp
            with_reducible rfl
          rotate_left
          · simp only [Act.put, List.setIfInBounds_toArray, List.set_cons_zero, List.set_cons_succ]
            rfl
          refine done_ (by kernel_rfl) ?_
          clear hHeld
          go_upto_region 31 with (fail)
          refine start_ (n := 16) (S := (fun w' => w'.cell? ⟨bx, 0, none⟩ = some (.int .i64 x.f0) ∧ w'.cell? ⟨bx, 1, none⟩ = some (.string x.f1.f0) ∧ w'.cell? ⟨bx, 2, none⟩ = some (.int .i64 x.f1.f1.f0) ∧ w'.cell? ⟨bx, 3, none⟩ = some (.int .i64 x.f1.f1.f1) ∧ w'.cell? ⟨bx, 4, none⟩ = some (.string x.f1.f1.f2) ∧ w'.cell? ⟨bx, 5, none⟩ = some (.slice D5 x.f1.f1.f3.length e5') ∧ w'.cell? ⟨bx, 6, none⟩ = some (.slice D6 x.f1.f2.length e6') ∧ w'.cell? (adr.add (kk * 7)) = some (.int .i64 x.f0) ∧ w'.cell? ⟨(adr.add (kk * 7)).block, (adr.add (kk * 7)).off + 1, none⟩ = some (.string x.f1.f0) ∧ w'.cell? ⟨(adr.add (kk * 7)).block, (adr.add (kk * 7)).off + 2, none⟩ = some (.int .i64 x.f1.f1.f0) ∧ w'.cell? ⟨(adr.add (kk * 7)).block, (adr.add (kk * 7)).off + 3, none⟩ = some (.int .i64 x.f1.f1.f1) ∧ w'.cell? ⟨(adr.add (kk * 7)).block, (adr.add (kk * 7)).off + 4, none⟩ = some (.string x.f1.f1.f2) ∧ w'.cell? ⟨(adr.add (kk * 7)).block, (adr.add (kk * 7)).off + 5, none⟩ = some (.slice F4 x.f1.f1.f3.length g4) ∧ w'.cell? ⟨(adr.add (kk * 7)).block, (adr.add (kk * 7)).off + 6, none⟩ = some (.slice F5 x.f1.f2.length g5))) (ds := []) #[false, false, false, false, false, false, false, false, false, false, false, false, false, false, false, false] (by kernel_rfl) rfl rfl ⟨(show Wa.drew.cell? _ = _ from pw_cell_below HBa.out (blk_at HE.out 0 rfl)), (show Wa.drew.cell? _ = _ from pw_cell_below HBa.out (blk_at HE.out 1 rfl)), (show Wa.drew.cell? _ = _ from pw_cell_below HBa.out (blk_at HE.out 2 rfl)), (show Wa.drew.cell? _ = _ from pw_cell_below HBa.out (blk_at HE.out 3 rfl)), (show Wa.drew.cell? _ = _ from pw_cell_below HBa.out (blk_at HE.out 4 rfl)), (show Wa.drew.cell? _ = _ from pw_cell_below HBa.out (blk_at HE.out 5 rfl)), (show Wa.drew.cell? _ = _ from pw_cell_below HBa.out (blk_at HE.out 6 rfl)), (show Wa.drew.cell? _ = _ from pw_cell_below HBa.out (b0)), (show Wa.drew.cell? _ = _ from pw_cell_below HBa.out (b1)), (show Wa.drew.cell? _ = _ from pw_cell_below HBa.out (b2)), (show Wa.drew.cell? _ = _ from pw_cell_below HBa.out (b3)), (show Wa.drew.cell? _ = _ from pw_cell_below HBa.out (b4)), (show Wa.drew.cell? _ = _ from pw_cell_below HBa.out (b5)), (show Wa.drew.cell? _ = _ from pw_cell_below HBa.out (b6))⟩ (fun hHeld => ?_)
          have HBo : Hid (Below wb.heap.size wb Wa.drew) := Lib.hid (HBa.out.trans ((Below.refl _ _).drew.mono HBa.out.size))
          generalize Wa.drew = Wb at hHeld HBo ⊢
          refine pure_ (i := 0) (N := some 116) (v := ?_) (a' := ?_) #[true, false, false, false, false, false, false, false, false, false, false, false, false, false, false, false] rfl rfl (by kernel_rfl) (fun _ _ _ h => h) (Or.inl ⟨by rfl, ?_⟩) ?_ ?_
          rotate_left
          · intro w'
            go_simp
            with_reducible rfl
          rotate_left
          · simp only [Act.put, List.setIfInBounds_toArray, List.set_cons_zero, List.set_cons_succ]
            rfl
          refine pure_ (i := 1) (N := some 117) (v := ?_) (a' := ?_) #[true, true, false, false, false, false, false, false, false, false, false, false, false, false, false, false] rfl rfl (by kernel_rfl) (fun _ _ _ h => h) (Or.inl ⟨by rfl, ?_⟩) ?_ ?_
          rotate_left
          · intro w'
            go_simp
            with_reducible rfl
          rotate_left
          · simp only [Act.put, List.setIfInBounds_toArray, List.set_cons_zero, List.set_cons_succ]
            rfl
          refine pure_ (i := 2) (N := some 118) (v := ?_) (a' := ?_) #[true, true, true, false, false, false, false, false, false, false, false, false, false, false, false, false] rfl rfl (by kernel_rfl) (fun _ _ _ h => h) (Or.inl ⟨by rfl, ?_⟩) ?_ ?_
          rotate_left
          · intro w'
            go_simp
            with_reducible rfl
          rotate_left
          · simp only [Act.put, List.setIfInBounds_toArray, List.set_cons_zero, List.set_cons_succ]
            rfl
          refine pure_ (i := 3) (N := some 119) (v := ?_) (a' := ?_) #[true, true, true, true, false, false, false, false, false, false, false, false, false, false, false, false] rfl rfl (by kernel_rfl) (fun _ _ _ h => h) (Or.inl ⟨by rfl, ?_⟩) ?_ ?_
          rotate_left
          · intro w'
            go_simp
            with_reducible rfl
          rotate_left
          · simp only [Act.put, List.setIfInBounds_toArray, List.set_cons_zero, List.set_cons_succ]
            rfl
          refine pure_ (i := 4) (N := some 120) (v := ?_) (a' := ?_) #[true, true, true, true, true, false, false, false, false, false, false, false, false, false, false, false] rfl rfl (by kernel_rfl) (fun _ _ _ h => h) (Or.inl ⟨by rfl, ?_⟩) ?_ ?_
          rotate_left
          · intro w'
            go_simp
            with_reducible rfl
          rotate_left
          · simp only [Act.put, List.setIfInBounds_toArray, List.set_cons_zero, List.set_cons_succ]
            rfl
          refine take_ (i := 5) (N := some 121) (v := ?_) (a' := ?_) #[true, true, true, true, true, true, false, false, false, false, false, false, false, false, false, false] rfl rfl (by kernel_rfl) (fun _ _ _ h => h) (Or.inl ⟨by rfl, ?_⟩) hHeld ?_ ?_
          rotate_left
          · rintro w' ⟨s0, s1, s2, s3, s4, s5, s6, s7, s8, s9, s10, s11, s12, s13⟩
            go_simp
            with_reducible rfl
          rotate_left
          · simp only [Act.put, List.setIfInBounds_toArray, List.set_cons_zero, List.set_cons_succ]
            rfl
          refine pure_ (i := 6) (N := some 122) (v := ?_) (a' := ?_) #[true, true, true, true, true, true, true, false, false, false, false, false, false, false, false, false] rfl rfl (by kernel_rfl) (fun _ _ _ h => h) (Or.inl ⟨by rfl, ?_⟩) ?_ ?_
          rotate_left
          · intro w'
            go_simp
            with_reducible rfl
          rotate_left
          · simp only [Act.put, List.setIfInBounds_toArray, List.set_cons_zero, List.set_cons_succ]
            rfl
          refine pure_ (i := 7) (N := some 123) (v := ?_) (a' := ?_) #[true, true, true, true, true, true, true, true, false, false, false, false, false, false, false, false] rfl rfl (by kernel_rfl) (fun _ _ _ h => h) (Or.inl ⟨by rfl, ?_⟩) ?_ ?_
          rotate_left
          · intro w'
            go_simp
            with_reducible rfl
          rotate_left
          · simp only [Act.put, List.setIfInBounds_toArray, List.set_cons_zero, List.set_cons_succ]
            rfl
          refine pure_ (i := 8) (N := some 124) (v := ?_) (a' := ?_) #[true, true, true, true, true, true, true, true, true, false, false, false, false, false, false, false] rfl rfl (by kernel_rfl) (fun _ _ _ h => h) (Or.inl ⟨by rfl, ?_⟩) ?_ ?_
          rotate_left
          · intro w'
            go_simp
            with_reducible rfl
          rotate_left
          · simp only [Act.put, List.setIfInBounds_toArray, List.set_cons_zero, List.set_cons_succ]
            rfl
          refine pure_ (i := 9) (N := some 125) (v := ?_) (a' := ?_) #[true, true, true, true, true, true, true, true, true, true, false, false, false, false, false, false] rfl rfl (by kernel_rfl) (fun _ _ _ h => h) (Or.inl ⟨by rfl, ?_⟩) ?_ ?_
          rotate_left
          · intro w'
            go_simp
            with_reducible rfl
          rotate_left
          · simp only [Act.put, List.setIfInBounds_toArray, List.set_cons_zero, List.set_cons_succ]
            rfl
          refine pure_ (i := 10) (N := some 126) (v := ?_) (a' := ?_) #[true, true, true, true, true, true, true, true, true, true, true, false, false, false, false, false] rfl rfl (by kernel_rfl) (fun _ _ _ h => h) (Or.inl ⟨by rfl, ?_⟩) ?_ ?_
          rotate_left
          · intro w'
            go_simp
            with_reducible rfl
          rotate_left
          · simp only [Act.put, List.setIfInBounds_toArray, List.set_cons_zero, List.set_cons_succ]
            rfl
          refine pure_ (i := 11) (N := some 127) (v := ?_) (a' := ?_) #[true, true, true, true, true, true, true, true, true, true, true, true, false, false, false, false] rfl rfl (by kernel_rfl) (fun _ _ _ h => h) (Or.inl ⟨by rfl, ?_⟩) ?_ ?_
          rotate_left
          · intro w'
            go_simp
            with_reducible rfl
          rotate_left
          · simp only [Act.put, List.setIfInBounds_toArray, List.set_cons_zero, List.set_cons_succ]
            rfl
          refine take_ (i := 12) (N := some 128) (v := ?_) (a' := ?_) #[true, true, true, true, true, true, true, true, true, true, true, true, true, false, false, false] rfl rfl (by kernel_rfl) (fun _ _ _ h => h) (Or.inl ⟨by rfl, ?_⟩) hHeld ?_ ?_
          rotate_left
          · rintro w' ⟨s0, s1, s2, s3, s4, s5, s6, s7, s8, s9, s10, s11, s12, s13⟩
            go_simp
            with_reducible rfl
          rotate_left
          · simp only [Act.put, List.setIfInBounds_toArray, List.set_cons_zero, List.set_cons_succ]
            rfl
          refine one_ (i := 13) (N := some 129) #[true, true, true, true, true, true, true, true, true, true, true, true, true, true, false, false] rfl rfl (by kernel_rfl) (by decide) (fun K hK => ?_)
          refine goes_ Try.func18 (by kernel_rfl) rfl #[.agg #[.int .i64 x.f0, .string x.f1.f0, .int .i64 x.f1.f1.f0, .int .i64 x.f1.f1.f1, .string x.f1.f1.f2, .slice D5 x.f1.f1.f3.length e5', .slice D6 x.f1.f2.length e6'], .agg #[.int .i64 x.f0, .string x.f1.f0, .int .i64 x.f1.f1.f0, .int .i64 x.f1.f1.f1, .string x.f1.f1.f2, .slice F4 x.f1.f1.f3.length g4, .slice F5 x.f1.f2.length g5]] (by rfl) rfl rfl (by simp only [List.map_toArray, List.map_cons, List.map_nil]; rfl) ?_
          refine (HSAME.out Wb ⟨HBo.out⟩).mono ?_
          rintro e w11 ⟨rfl, HB11a⟩
          have HB11 : Hid (Below wb.heap.size wb w11) := Lib.hid (HBo.out.trans (HB11a.out.mono HBo.out.size))
          refine ⟨_, rfl, ?_⟩
          refine hK.out _ _ ⟨pw_cell_below HB11a.out hHeld.1, pw_cell_below HB11a.out hHeld.2.1, pw_cell_below HB11a.out hHeld.2.2.1, pw_cell_below HB11a.out hHeld.2.2.2.1, pw_cell_below HB11a.out hHeld.2.2.2.2.1, pw_cell_below HB11a.out hHeld.2.2.2.2.2.1, pw_cell_below HB11a.out hHeld.2.2.2.2.2.2.1, pw_cell_below HB11a.out hHeld.2.2.2.2.2.2.2.1, pw_cell_below HB11a.out hHeld.2.2.2.2.2.2.2.2.1, pw_cell_below HB11a.out hHeld.2.2.2.2.2.2.2.2.2.1, pw_cell_below HB11a.out hHeld.2.2.2.2.2.2.2.2.2.2.1, pw_cell_below HB11a.out hHeld.2.2.2.2.2.2.2.2.2.2.2.1, pw_cell_below HB11a.out hHeld.2.2.2.2.2.2.2.2.2.2.2.2.1, pw_cell_below HB11a.out hHeld.2.2.2.2.2.2.2.2.2.2.2.2.2⟩ (fun hHeld => ?_)
          clear hK K
          refine norm_ (a' := ?_) ?_ ?_
          rotate_left
          · show Act.put _ (some 129) _ = _
            simp only [Act.put, List.setIfInBounds_toArray, List.set_cons_zero, List.set_cons_succ]
            rfl
          refine pure_ (i := 14) (N := some 130) (v := ?_) (a' := ?_) #[true, true, true, true, true, true, true, true, true, true, true, true, true, true, true, false] rfl rfl (by kernel_rfl) (fun _ _ _ h => h) (Or.inl ⟨by rfl, ?_⟩) ?_ ?_
          rotate_left
          · intro w'
            go_simp
            with_reducible rfl
          rotate_left
          · simp only [Act.put, List.setIfInBounds_toArray, List.set_cons_zero, List.set_cons_succ]
            rfl
          refine pure_ (i := 15) (N := some 131) (v := ?_) (a' := ?_) #[true, true, true, true, true, true, true, true, true, true, true, true, true, true, true, true] rfl rfl (by kernel_rfl) (fun _ _ _ h => h) (Or.inl ⟨by rfl, ?_⟩) ?_ ?_
          rotate_left
          · intro w'
            go_simp
            with_reducible rfl
          rotate_left
          · simp only [Act.put, List.setIfInBounds_toArray, List.set_cons_zero, List.set_cons_succ]
            rfl
          refine done_ (by kernel_rfl) ?_
          clear hHeld
          go_wp2_with (fail)
          go_roundw
          case rel => exact ⟨k + 1, h2, lk, own9, c10, cap10, s10, r10, by omega, by go_num, rfl, H2, Hdr, Lib.hid (HL10.out.upd (S := fun _ => False) (by decide) (by decide) (Upd.of_below' HB11.out (fun _ _ => rfl))), Lib.hid (HU8b.out.then (Upd.of_below' HB11.out (fun _ _ => rfl)))⟩
          case measure => simp [intOf]; omega
      · obtain rfl : k = nr + m := by omega
        have hnil : L.drop (nr + m) = [] := List.drop_of_length_le (by rw [HLlen.out]; exact Nat.le_refl _)
        have h0 : lk = [] := by
          have := HLK.out
          rw [hnil] at this
          exact List.map_eq_nil_iff.1 this
        have hz : h = 0 := by rw [HH.out, hnil]; rfl
        subst h0
        subst hz
        go_wp2_with (fail)
        go_meet
        exact ⟨rfl, ownr, c9, cap9, s9, r9, HL, HU⟩
  case rest =>
  obtain ⟨rfl, own9, c9, cap9, s9, r9, HL9, HU69⟩ := hcut
  obtain ⟨w9, rfl⟩ : ∃ w : World, w = wc := ⟨_, rfl⟩
  have HT9 := Lib.hid (HT6.out.then HU69.out)
  clear HT6 HU69 HW6 HD6 HL6
  have HTN := Lib.hid (take12_none own9 w9 g c9 cap9 s9 r9 rm false HL9.out)
  go_upto_region 34 with (first
    | (go_at_call 12; refine HTN.out.mono ?_; rintro e w10 ⟨rfl, HB10⟩))
  have HUz : Hid (Upd (· = 1) own9 w9 own9 (w10.alloc (.cells #[.int .i64 0, .string ⟨#[]⟩, .int .i64 0, .int .i64 0, .string ⟨#[]⟩, .slice none 0 0, .slice none 0 0] 35))) := Lib.hid ((Upd.of_below' HB10.out (fun _ _ => rfl)).then (Upd.box _))
  have HLz := Lib.hid (HL9.out.upd (S := fun _ => False) (by decide) (by decide) ((Upd.of_below' HB10.out (fun _ _ => rfl)).then (Upd.box (.cells #[.int .i64 0, .string ⟨#[]⟩, .int .i64 0, .int .i64 0, .string ⟨#[]⟩, .slice none 0 0, .slice none 0 0] 35))))
  clear HTN HL9 HB10
  generalize w10.alloc (.cells #[.int .i64 0, .string ⟨#[]⟩, .int .i64 0, .int .i64 0, .string ⟨#[]⟩, .slice none 0 0, .slice none 0 0] 35) = wz at *
  have HCL := Lib.hid (close19 own9 wz g c9 cap9 s9 r9 rm [] HLz.out (by simp))
  have HTz := Lib.hid (HT9.out.then HUz.out)
  clear HT9 HUz
  go_upto_region 35 with (first
    | (go_at_call 19; refine HCL.out.mono ?_; rintro e w11 ⟨own8, c8, cap8, s8, r8, A8, cc8, rfl, HL8, HU8, -⟩))
  have HRS := Lib.hid (refill16_shut own8 w11 g c8 cap8 s8 r8 rm [] HL8.out (.slice B nr cb))
  have HTe := Lib.hid (HTz.out.then HU8.out)
  clear HCL HTz HL8 HU8 HLz
  go_wp2_with (first
    | (go_at_call 16; refine HRS.out.mono ?_; rintro e w12 ⟨rfl, rfl⟩))
  go_ret
  exact ⟨rfl, HTe.out.below (Nat.le_refl _) (fun _ _ h => by cases h)⟩
end Go.Proofs.Ytcbfddhdaamimaa.PLaneFifo
