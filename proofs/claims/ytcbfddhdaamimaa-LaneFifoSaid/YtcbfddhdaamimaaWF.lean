/- LaneFifo, walked. -/
import Derived.Test.YtcbfddhdaamimaaBW
namespace Go.Proofs.Ytcbfddhdaamimaa.PLaneFifo
open Go.RowKit Go.Conc Go.Proofs.YtcbfddhdaamimaaW.PrintWords Go.Proofs.YtcbfddhdaamimaaW.PrintLast
set_option linter.unusedVariables false
set_option linter.unusedSimpArgs false

theorem fewN_take (l : List S60) (k : Nat) (hk : k < l.length) : fewN (l.take (k + 1)) = fewN (l.take k) + (partsIs l[k].f2 + partsRs l[k].f3) := by
  unfold fewN
  rw [List.take_succ_eq_append_getElem hk, List.map_append, List.sum_append]
  simp
theorem fewN_le (l : List S60) (k : Nat) : fewN (l.take k) ≤ fewN l := by
  unfold fewN
  conv => rhs; rw [← List.take_append_drop k l]
  rw [List.map_append, List.sum_append]
  omega
theorem one_C (w : World) (g : Nat) (h : w.heap[g]? = some (.cells #[.int .i64 1, .string ⟨#[]⟩, .int .i64 0, .int .i64 0, .string ⟨#[]⟩, .slice none 0 0, .slice none 0 0] 35 (0, 0))) : Kd.C k35 w (some ⟨g, 0, none⟩) [(⟨1, z33⟩ : S35)].length [(⟨1, z33⟩ : S35)] := by
  refine ⟨rfl, by decide, fun _ => ⟨⟨g, 0, none⟩, rfl, fun j p hj => ?_⟩⟩
  have hj0 : j = 0 := by
    have := (List.getElem?_eq_some_iff.1 hj).1
    simp at this
    exact this
  subst hj0
  obtain rfl : (⟨1, z33⟩ : S35) = p := Option.some.inj hj
  refine ⟨#[.int .i64 1, .string ⟨#[]⟩, .int .i64 0, .int .i64 0, .string ⟨#[]⟩, .slice none 0 0, .slice none 0 0].toList, rfl, k35_mk w ⟨1, z33⟩ (Nat.le_refl _) (Kd.C_nil _ _) (Nat.le_refl _) (Kd.C_nil _ _), fun i u hi => ?_⟩
  have h1 := blk_at h i (u := u) (by have h9 := hi; rw [Array.getElem?_toList] at h9; exact h9)
  have h2 : (⟨g, 0, none⟩ : Addr).add (0 * 7 + i) = ⟨g, i, none⟩ := by simp [Addr.add]; exact fun h => h.symm
  exact (congrArg w.cell? h2).trans h1
set_option maxRecDepth 100000 in
set_option maxHeartbeats 20000000 in
theorem laneFifo_walk (rm : Int) (l : List S60) (A : Option Addr) (cl : Nat) (w : World) (hC : Kd.C k60 w A l.length l) (hcl : l.length ≤ cl) (hlen : ∀ o ∈ l, (∀ y ∈ o.f2, lenR y.f1) ∧ (∀ y ∈ o.f3, lenR y)) :
    Calls Try.prog 5 #[.int .i64 rm, .slice A l.length cl] w fun e w' => e = .returned (.bool true) ∧ Below w.heap.size w w' := by
  have HI := Lib.hid (few20 l A cl w hC hlen)
  obtain ⟨n, hn⟩ : ∃ n, n = l.length := ⟨_, rfl⟩
  have Hn := Lib.hid hn
  have hn9 : n ≤ 9223372036854775807 := by rw [hn]; exact Kd.C_max hC
  have HC : Hid (Kd.C k60 w A n l) := Lib.hid (by rw [hn]; exact hC)
  rw [← hn] at HI ⊢
  clear hC hcl hlen hn
  go_enter Try.func5, Try.ntmps5
  go_upto_if 17 with (first
    | (go_at_call 20; refine HI.out.mono ?_; rintro e w1 ⟨b1, rfl, hb1, hB1⟩
       have HB1 := Lib.hid hB1
       have Hb1 := Lib.hid hb1
       clear hb1 hB1))
  clear HI
  cases b1 with
  | false =>
    go_wp2_with (fail)
    go_ret
    exact ⟨rfl, HB1.out⟩
  | true =>
  have HF : Hid (fewN l ≤ 10000) := Lib.hid (Hb1.out rfl)
  clear Hb1
  go_upto_region 3 with (fail)
  go_cut [23] (fun v23 wx => v23 = .bool (decide (rm < 0 ∨ 8 < rm)) ∧ wx = w1)
  case first =>
    by_cases h1 : rm < 0
    · have k1 : decide (rm < 0) = true := decide_eq_true h1
      go_wp2_with (fail)
      go_meet
      exact ⟨by simp [h1], rfl⟩
    · have k1 : decide (rm < 0) = false := decide_eq_false h1
      have H1 := Lib.hid h1
      go_wp2_with (fail)
      go_meet
      exact ⟨congrArg Value.bool (decide_eq_decide.2 ⟨.inr, fun h => h.resolve_left (by have := H1.out; omega)⟩), rfl⟩
  case rest =>
  obtain ⟨rfl, rfl⟩ := hcut
  obtain ⟨w1, rfl⟩ : ∃ w1 : World, w1 = wc := ⟨_, rfl⟩
  by_cases hrm : rm < 0 ∨ 8 < rm
  · have HN := Lib.hid (new7_no w1 rm hrm)
    have k1 : decide (rm < 0 ∨ 8 < rm) = true := decide_eq_true hrm
    rw [k1]
    clear hrm
    go_wp2_with (first
      | (go_at_call 7; refine HN.out.mono ?_; rintro e w2 ⟨rfl, rfl⟩))
    go_ret
    exact ⟨rfl, HB1.out⟩
  have k1 : decide (rm < 0 ∨ 8 < rm) = false := decide_eq_false hrm
  have hrm0 : 0 ≤ rm := by omega
  have HN := Lib.hid (new7_ok (fun _ => 0) w1 rm hrm0 (by omega))
  rw [k1]
  clear hrm k1
  go_upto_region 9 with (first
    | (go_at_call 7; refine HN.out.mono ?_; rintro e w2 ⟨g, c1, own1, cap1, s1, r1, rfl, HL1, HU1, hg1⟩))
  clear HN
  have HU2 : Hid (Upd (1 ≤ ·) (fun _ => 0) w own1 w2) := Lib.hid (((Upd.of_below' HB1.out (fun _ _ => rfl)).then HU1.out).mono (fun _ h => h.elim))
  clear HU1 hg1 HB1
  go_upto_region 10 with (fail)
  have HBK : Hid (BookAt (fresh own1 w2 2) (w2.alloc (.cells #[.slice none 0 0, .slice none 0 0, .int .i64 0, .int .i64 0] 57)) w2.heap.size [] [] 0 0 none 0 none 0) := Lib.hid ⟨blk_new w2 _, fresh_new (Nat.le_refl _), Kd.R_nil _ _ _ _ _, Kd.R_nil _ _ _ _ _⟩
  have HL3 := Lib.hid (HL1.out.upd (S := fun _ => False) (by decide) (by decide) (Upd.alloc (.cells #[.slice none 0 0, .slice none 0 0, .int .i64 0, .int .i64 0] 57) 2))
  have HU3 : Hid (Upd (1 ≤ ·) (fun _ => 0) w (fresh own1 w2 2) (w2.alloc (.cells #[.slice none 0 0, .slice none 0 0, .int .i64 0, .int .i64 0] 57))) := Lib.hid (HU2.out.then (Upd.alloc _ _))
  have HBO : Hid (Both (fresh own1 w2 2) (w2.alloc (.cells #[.slice none 0 0, .slice none 0 0, .int .i64 0, .int .i64 0] 57)) g w2.heap.size rm (fewN (l.take 0))) := Lib.hid ⟨[], c1, cap1, s1, r1, [], [], 0, 0, none, 0, none, 0, HL3.out, HBK.out, Rel.nil, fun x hx => by (cases hx), (by unfold Bnd; right; exact hrm0), Nat.zero_le _⟩
  clear HBK HL3 HL1 HU2
  generalize w2.alloc (.cells #[.slice none 0 0, .slice none 0 0, .int .i64 0, .int .i64 0] 57) = w3 at *
  generalize fresh own1 w2 2 = own3 at *
  generalize w2.heap.size = b at *
  -- the script
  go_upto_block 0 with (fail)
  go_cut [] (fun wx => ∃ own4 t, t ≤ 10000 ∧ Hid (Both own4 wx g b rm t) ∧ Hid (Upd (1 ≤ ·) (fun _ => 0) w own4 wx))
  case first =>
    go_wp2_with (fail)
    go_loopw [10] (fun v10 wr => ∃ (k : Nat) (ownr : Nat → Nat), k ≤ n ∧ v10 = .int .i64 k ∧ Hid (Both ownr wr g b rm (fewN (l.take k))) ∧ Hid (Upd (1 ≤ ·) (fun _ => 0) w ownr wr)) (fun v10 _ => n - (intOf v10).toNat)
    case atStart => exact ⟨0, own3, Nat.zero_le _, rfl, HBO, HU3⟩
    case round =>
      obtain ⟨k, ownr, hk, rfl, HBk, HU⟩ := hrel
      by_cases hlt : k < n
      · have hkl : k < l.length := by rw [← Hn.out]; exact hlt
        obtain ⟨ad, A2, c2, A3, c3, rfl, a0, a1, a2, a3, hl2, hC2, hl3, hC3⟩ := at_T60 HC.out (k : Int) (by omega) (by omega)
        have hrd : rd_T60 l (k : Int) = l[k] := by
          unfold rd_T60
          rw [Int.toNat_natCast, List.getD_eq_getElem?_getD, List.getElem?_eq_getElem hkl]
          rfl
        rw [hrd] at a0 a1 a2 a3 hC2
        rw [Int.toNat_natCast] at a0 a1 a2 a3
        have hbw : Below w.heap.size w wr := HU.out.below (Nat.le_refl _) (fun _ _ => by decide)
        replace a0 := pw_cell_below hbw a0
        replace a1 := pw_cell_below hbw a1
        replace a2 := pw_cell_below hbw a2
        replace a3 := pw_cell_below hbw a3
        obtain ⟨lys, hlys, hSt⟩ := pairs_of_C (own := fun _ => 0) hC2 (fun _ _ => rfl)
        have hft := fewN_take l k hkl
        have hfl := fewN_le l (k + 1)
        have hpl := partsIs_len l[k].f2
        have hf9 := HF.out
        have hst := step21_all ownr wr g b rm _ HBk.out hrm0 l[k].f0 l[k].f1 A2 c2 A3 l[k].f3.length c3 l[k].f2 lys hlys (StC_pk_upd hSt (S := (1 ≤ ·)) (by decide) HU.out) (by omega) (fun y hy => by have := partsIs_mem hy; omega)
        have hle : fewN (l.take k) + l[k].f2.length ≤ fewN (l.take (k + 1)) := by omega
        have hst2 := hst.mono (fun e w' h => (⟨h.1, h.2.mono hle⟩ : e = .returned (.bool true) ∧ StepTo ownr wr g b rm (fewN (l.take (k + 1))) w'))
        generalize l[k].f2.length = m2 at *
        generalize l[k].f3.length = m3 at *
        generalize l[k].f0 = kd at *
        generalize l[k].f1 = fb at *
        have HST := Lib.hid hst2
        clear hst hst2 hft hfl hpl hf9 hle hSt hlys hC2 hC3 hl2 hl3 hrd hbw hkl
        go_wp2_with (first
          | (go_at_call 21; refine HST.out.mono ?_; rintro e w5 ⟨rfl, own5, HU5, HB5⟩))
        go_roundw
        case rel => exact ⟨k + 1, own5, by omega, by go_num, HB5, Lib.hid (HU.out.then HU5.out)⟩
        case measure => simp [intOf]; omega
      · obtain rfl : k = n := by omega
        go_wp2_with (fail)
        go_meet
        exact ⟨ownr, fewN (l.take k), Nat.le_trans (fewN_le _ _) HF.out, HBk, HU⟩
  case rest =>
  obtain ⟨own4, t, ht, HB4, HU4⟩ := hcut
  obtain ⟨w4, rfl⟩ : ∃ w4 : World, w4 = wc := ⟨_, rfl⟩
  obtain ⟨ll, c4, cap4, s4, r4, q, ms, oR, oM, Ar, cr, Am, cm, hL4, hBK4, hR4, hI4, -, htot⟩ := HB4.out
  have Hq : Hid (q.length ≤ 10000) := Lib.hid (by omega)
  have Hm : Hid (ms.length ≤ 10000) := Lib.hid (by omega)
  have HI4 := Lib.hid hI4
  have HR4 := Lib.hid hR4
  have hll := hR4.len (fun x hx => (hI4 x hx).2.1)
  rw [List.length_map, List.length_map] at hll
  have hcl := close19 own4 w4 g c4 cap4 s4 r4 rm ll hL4 (by omega)
  obtain ⟨n4, hn4⟩ : ∃ n4, n4 = ll.length := ⟨_, rfl⟩
  have hn49 : n4 ≤ 20000 := by omega
  have Hn4 := Lib.hid hn4
  have HCL : Hid (Calls Try.prog 19 #[.pointer (some ⟨g, 0, none⟩)] w4 fun e w' => ∃ own' c cap s r Aw cw, e = .returned (.slice Aw n4 cw) ∧ Hid (LaneAt own' w' g rm true [] c cap s r) ∧ Hid (Upd (· = 1) own4 w4 own' w') ∧ Hid (StC (pk k35 own' w') own' w' Aw n4 ll)) := Lib.hid (hcl.mono (by
    rintro e w' ⟨own', c, cap, s, r, Aw, cw, he, h2, h3, h4⟩
    rw [← hn4] at he h4
    exact ⟨own', c, cap, s, r, Aw, cw, he, h2, h3, Lib.hid (StC.made h4.out)⟩))
  have HBK4 := Lib.hid hBK4
  clear hcl hL4 hBK4 hR4 hI4 htot hll hn4 HB4 ht
  go_upto_block 2 with (first
    | (go_at_call 19; refine HCL.out.mono ?_; rintro e w6 ⟨own6, c6, cap6, s6, r6, Aw, cw, rfl, HL6, HU6, HW6⟩))
  have HBK6 := Lib.hid (HBK4.out.upd (S := (· = 1)) (by decide) (by decide) (by decide) (by decide) HU6.out)
  have HUT6 := Lib.hid (HU4.out.then (HU6.out.mono (fun t h => by omega)))
  clear HCL HBK4 HU4 HU6
  go_cut [] (fun wx => ∃ oRk oMk, Hid (BookAt own6 wx b q ms oRk oMk Ar cr Am cm) ∧ Hid (Upd (2 ≤ ·) own6 w6 own6 wx) ∧ Hid (oRk = q.length ∧ oMk = ms.length))
  case first =>
    go_wp2_with (fail)
    go_loopw [66] (fun v66 wr => ∃ (k oRk oMk : Nat), k ≤ n4 ∧ v66 = .int .i64 k ∧ Hid (BookAt own6 wr b q ms oRk oMk Ar cr Am cm) ∧ Hid (Upd (2 ≤ ·) own6 w6 own6 wr) ∧ Hid (Rel ((ll.map (·.1)).drop k) (q.map (·.1)) ms oRk oMk)) (fun v66 _ => n4 - (intOf v66).toNat)
    case atStart => exact ⟨0, oR, oM, Nat.zero_le _, rfl, HBK6, Lib.hid (Upd.refl _ _ _), HR4⟩
    case round =>
      obtain ⟨k, oRk, oMk, hk, rfl, HBk, HU, HRk⟩ := hrel
      by_cases hlt : k < n4
      · have hkl : k < ll.length := by rw [← Hn4.out]; exact hlt
        obtain ⟨ad, x, D5, e5', D6, e6', rfl, hy, hsy, a0, a1, a2, a3, a4, a5, a6⟩ := at_pk (StC_pk_upd HW6.out (S := (2 ≤ ·)) (by decide) HU.out).now k hkl
        have hdr : (ll.map (·.1)).drop k = x :: (ll.map (·.1)).drop (k + 1) := by
          rw [List.drop_eq_getElem_cons (by rw [List.length_map]; exact hkl), List.getElem_map, hy]
        have hrk := HRk.out
        rw [hdr] at hrk
        have hix := HI4.out x (by
          have : x ∈ (ll.map (·.1)).drop k := by rw [hdr]; simp
          exact List.mem_of_mem_drop this)
        have HSX := Lib.hid hsy
        clear hy hsy hdr hkl
        by_cases hz : x.f0 = 0
        · have Htk := Lib.hid (hrk.takeR hz)
          have Hz := Lib.hid hz
          have Hix := Lib.hid hix
          have HO : Hid (∀ W : World, Upd (fun _ => False) own6 wr own6 W → Calls Try.prog 22 #[.pointer (some ⟨b, 0, none⟩), .agg #[.int .i64 x.f0, .string x.f1.f0, .int .i64 x.f1.f1.f0, .int .i64 x.f1.f1.f1, .string x.f1.f1.f2, .slice D5 x.f1.f1.f3.length e5', .slice D6 x.f1.f2.length e6']] W fun e w' => e = .returned (.bool true) ∧ Hid (BookAt own6 w' b q ms (oRk + 1) oMk Ar cr Am cm) ∧ Hid (Upd (2 ≤ ·) own6 W own6 w')) := Lib.hid (fun W hW => out22_r own6 W b q ms oRk oMk Ar Am cr cm (HBk.out.upd (by decide) (by decide) (by decide) (by decide) hW) Hq.out Hm.out x D5 e5' D6 e6' (HSX.out.upd (by decide) hW) Hz.out (by obtain ⟨h1, -⟩ := Htk.out.1; rw [List.length_map] at h1; exact h1) (by obtain ⟨h1, h2⟩ := Htk.out.1; rw [List.getElem_map] at h2; exact h2) Hix.out.2.2)
          clear hrk hz hix HRk
          go_upto_region 18 with (fail)
          have HUb : Hid (Upd (fun _ => False) own6 wr own6 (wr.alloc (.cells #[.int .i64 x.f0, .string x.f1.f0, .int .i64 x.f1.f1.f0, .int .i64 x.f1.f1.f1, .string x.f1.f1.f2, .slice D5 x.f1.f1.f3.length e5', .slice D6 x.f1.f2.length e6'] 35))) := Lib.hid (Upd.box _)
          have HEX := Lib.hid (blk_new wr (.cells #[.int .i64 x.f0, .string x.f1.f0, .int .i64 x.f1.f1.f0, .int .i64 x.f1.f1.f1, .string x.f1.f1.f2, .slice D5 x.f1.f1.f3.length e5', .slice D6 x.f1.f2.length e6'] 35))
          clear a0 a1 a2 a3 a4 a5 a6
          generalize wr.alloc (.cells #[.int .i64 x.f0, .string x.f1.f0, .int .i64 x.f1.f1.f0, .int .i64 x.f1.f1.f1, .string x.f1.f1.f2, .slice D5 x.f1.f1.f3.length e5', .slice D6 x.f1.f2.length e6'] 35) = w7 at *
          generalize wr.heap.size = b7 at *
          have x0 : w7.cell? ⟨b7, 0, none⟩ = some (.int .i64 x.f0) := blk_at HEX.out 0 rfl
          have x1 : w7.cell? ⟨b7, 1, none⟩ = some (.string x.f1.f0) := blk_at HEX.out 1 rfl
          have x2 : w7.cell? ⟨b7, 2, none⟩ = some (.int .i64 x.f1.f1.f0) := blk_at HEX.out 2 rfl
          have x3 : w7.cell? ⟨b7, 3, none⟩ = some (.int .i64 x.f1.f1.f1) := blk_at HEX.out 3 rfl
          have x4 : w7.cell? ⟨b7, 4, none⟩ = some (.string x.f1.f1.f2) := blk_at HEX.out 4 rfl
          have x5 : w7.cell? ⟨b7, 5, none⟩ = some (.slice D5 x.f1.f1.f3.length e5') := blk_at HEX.out 5 rfl
          have x6 : w7.cell? ⟨b7, 6, none⟩ = some (.slice D6 x.f1.f2.length e6') := blk_at HEX.out 6 rfl
          go_wp2_with (first
            | (go_at_call 22; refine (HO.out _ HUb.out).mono ?_; rintro e w8 ⟨rfl, HB8, HU8⟩))
          go_roundw
          case rel => exact ⟨k + 1, oRk + 1, oMk, by omega, by go_num, HB8, Lib.hid ((HU.out.then (HUb.out.mono (fun _ h => h.elim))).then HU8.out), Lib.hid Htk.out.2⟩
          case measure => simp [intOf]; omega
        · have hpos : 0 < x.f0 := by omega
          have hxe : (⟨x.f0, z33⟩ : S35) = x := by
            have := hix.1
            unfold cop at this
            rw [if_pos hpos] at this
            exact this
          obtain ⟨m, rx⟩ := x
          obtain rfl : z33 = rx := congrArg S35.f1 hxe
          have Htk := Lib.hid (hrk.takeM hpos)
          have HO : Hid (∀ W : World, Upd (fun _ => False) own6 wr own6 W → Calls Try.prog 22 #[.pointer (some ⟨b, 0, none⟩), .agg #[.int .i64 m, .string ⟨#[]⟩, .int .i64 0, .int .i64 0, .string ⟨#[]⟩, .slice D5 0 e5', .slice D6 0 e6']] W fun e w' => e = .returned (.bool true) ∧ Hid (BookAt own6 w' b q ms oRk (oMk + 1) Ar cr Am cm) ∧ Hid (Upd (2 ≤ ·) own6 W own6 w')) := Lib.hid (fun W hW => out22_m own6 W b q ms oRk oMk Ar Am cr cm (HBk.out.upd (by decide) (by decide) (by decide) (by decide) hW) Hq.out Hm.out m D5 e5' D6 e6' (HSX.out.upd (by decide) hW) hpos Htk.out.1.1 Htk.out.1.2)
          replace a0 : _ = (some (.int .i64 m) : Option Value) := a0
          replace a1 : _ = (some (.string ⟨#[]⟩) : Option Value) := a1
          replace a2 : _ = (some (.int .i64 0) : Option Value) := a2
          replace a3 : _ = (some (.int .i64 0) : Option Value) := a3
          replace a4 : _ = (some (.string ⟨#[]⟩) : Option Value) := a4
          replace a5 : _ = (some (.slice D5 0 e5') : Option Value) := a5
          replace a6 : _ = (some (.slice D6 0 e6') : Option Value) := a6
          clear hrk hz hix hpos hxe HRk HSX
          go_upto_region 18 with (fail)
          have HUb : Hid (Upd (fun _ => False) own6 wr own6 (wr.alloc (.cells #[.int .i64 m, .string ⟨#[]⟩, .int .i64 0, .int .i64 0, .string ⟨#[]⟩, .slice D5 0 e5', .slice D6 0 e6'] 35))) := Lib.hid (Upd.box _)
          have HEX := Lib.hid (blk_new wr (.cells #[.int .i64 m, .string ⟨#[]⟩, .int .i64 0, .int .i64 0, .string ⟨#[]⟩, .slice D5 0 e5', .slice D6 0 e6'] 35))
          clear a0 a1 a2 a3 a4 a5 a6
          generalize wr.alloc (.cells #[.int .i64 m, .string ⟨#[]⟩, .int .i64 0, .int .i64 0, .string ⟨#[]⟩, .slice D5 0 e5', .slice D6 0 e6'] 35) = w7 at *
          generalize wr.heap.size = b7 at *
          have x0 : w7.cell? ⟨b7, 0, none⟩ = some (.int .i64 m) := blk_at HEX.out 0 rfl
          have x1 : w7.cell? ⟨b7, 1, none⟩ = some (.string ⟨#[]⟩) := blk_at HEX.out 1 rfl
          have x2 : w7.cell? ⟨b7, 2, none⟩ = some (.int .i64 0) := blk_at HEX.out 2 rfl
          have x3 : w7.cell? ⟨b7, 3, none⟩ = some (.int .i64 0) := blk_at HEX.out 3 rfl
          have x4 : w7.cell? ⟨b7, 4, none⟩ = some (.string ⟨#[]⟩) := blk_at HEX.out 4 rfl
          have x5 : w7.cell? ⟨b7, 5, none⟩ = some (.slice D5 0 e5') := blk_at HEX.out 5 rfl
          have x6 : w7.cell? ⟨b7, 6, none⟩ = some (.slice D6 0 e6') := blk_at HEX.out 6 rfl
          go_wp2_with (first
            | (go_at_call 22; refine (HO.out _ HUb.out).mono ?_; rintro e w8 ⟨rfl, HB8, HU8⟩))
          go_roundw
          case rel => exact ⟨k + 1, oRk, oMk + 1, by omega, by go_num, HB8, Lib.hid ((HU.out.then (HUb.out.mono (fun _ h => h.elim))).then HU8.out), Lib.hid Htk.out.2⟩
          case measure => simp [intOf]; omega
      · obtain rfl : k = n4 := by omega
        have hre := HRk.out
        rw [List.drop_of_length_le (by rw [List.length_map, Hn4.out]; exact Nat.le_refl _)] at hre
        have hem := hre.empty
        rw [List.length_map] at hem
        have Hem := Lib.hid hem
        clear hre hem
        go_wp2_with (fail)
        go_meet
        exact ⟨oRk, oMk, HBk, HU, Hem⟩
  case rest =>
  obtain ⟨oRe, oMe, HBe, HUe, Hem⟩ := hcut
  obtain ⟨w9, rfl⟩ : ∃ w9 : World, w9 = wc := ⟨_, rfl⟩
  have HL9 := Lib.hid (HL6.out.upd (S := (2 ≤ ·)) (by decide) (by decide) HUe.out)
  have HUT9 := Lib.hid (HUT6.out.then (HUe.out.mono (fun t h => by omega)))
  have HL10 := Lib.hid (HL9.out.upd (S := fun _ => False) (by decide) (by decide) (Upd.box (.cells #[.int .i64 1, .string ⟨#[]⟩, .int .i64 0, .int .i64 0, .string ⟨#[]⟩, .slice none 0 0, .slice none 0 0] 35)))
  have HB10 := Lib.hid (HBe.out.upd (S := fun _ => False) (by decide) (by decide) (by decide) (by decide) (Upd.box (.cells #[.int .i64 1, .string ⟨#[]⟩, .int .i64 0, .int .i64 0, .string ⟨#[]⟩, .slice none 0 0, .slice none 0 0] 35)))
  have HUT10 : Hid (Upd (1 ≤ ·) (fun _ => 0) w own6 (w9.alloc (.cells #[.int .i64 1, .string ⟨#[]⟩, .int .i64 0, .int .i64 0, .string ⟨#[]⟩, .slice none 0 0, .slice none 0 0] 35))) := Lib.hid (HUT9.out.then (Upd.box _))
  have HP8 := Lib.hid (put8_shut own6 (w9.alloc (.cells #[.int .i64 1, .string ⟨#[]⟩, .int .i64 0, .int .i64 0, .string ⟨#[]⟩, .slice none 0 0, .slice none 0 0] 35)) g c6 cap6 s6 r6 rm HL10.out ⟨1, z33⟩ [] (some ⟨w9.heap.size, 0, none⟩) 1 (one_C _ _ (blk_new w9 _)))
  clear HL6 HW6 HBK6 HL9 HUe HUT6 HUT9 HBe HL10
  go_upto_region 22 with (first
    | (go_at_call 8; refine HP8.out.mono ?_; rintro e w11 ⟨rfl, HB11⟩))
  have hu11 : Upd (fun _ => False) own6 (w9.alloc (.cells #[.int .i64 1, .string ⟨#[]⟩, .int .i64 0, .int .i64 0, .string ⟨#[]⟩, .slice none 0 0, .slice none 0 0] 35)) own6 w11 := Upd.of_below' HB11 (fun _ _ => rfl)
  have HB12 := Lib.hid (HB10.out.upd (by decide) (by decide) (by decide) (by decide) hu11)
  have HUT := Lib.hid (HUT10.out.then (hu11.mono (fun _ h => h.elim)))
  clear HB10 HUT10 HP8 HB11 hu11
  have v0 : w11.cell? ⟨b, 0, none⟩ = some (.slice Ar q.length cr) := blk_at HB12.out.hb 0 rfl
  have v1 : w11.cell? ⟨b, 1, none⟩ = some (.slice Am ms.length cm) := blk_at HB12.out.hb 1 rfl
  have v2 : w11.cell? ⟨b, 2, none⟩ = some (.int .i64 oRe) := blk_at HB12.out.hb 2 rfl
  have v3 : w11.cell? ⟨b, 3, none⟩ = some (.int .i64 oMe) := blk_at HB12.out.hb 3 rfl
  rw [Hem.out.1] at v2
  rw [Hem.out.2] at v3
  clear HB12 Hem Hq Hm HI4 HR4
  generalize q.length = nq at *
  generalize ms.length = nm at *
  go_quiet (fail)
  go_wp2_with (fail)
  go_ret
  exact ⟨by rfl, pw_below_drewN (HUT.out.below (Nat.le_refl _) (fun _ _ => by decide)) _⟩
end Go.Proofs.Ytcbfddhdaamimaa.PLaneFifo
