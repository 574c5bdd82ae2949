/- LanePull, walked. -/
import Derived.Test.YtcbfddhdaamimaaPP
namespace Go.Proofs.Ytcbfddhdaamimaa.PLaneFifo
open Go.RowKit Go.Conc Go.Proofs.YtcbfddhdaamimaaW.PrintWords Go.Proofs.YtcbfddhdaamimaaW.PrintLast
set_option linter.unusedVariables false
set_option linter.unusedSimpArgs false

theorem lane_len {l2 : List Pr} {xs : List S35} (h : l2.map (·.1) = xs) : l2.length = xs.length := by rw [← h, List.length_map]
theorem lane_parts {l2 : List Pr} {xs : List S35} (h : l2.map (·.1) = xs) (hp : ∀ x ∈ xs, partsR x.f1 ≤ 100000) : ∀ p ∈ l2, partsR p.1.f1 ≤ 100000 := fun p hp' => hp _ (by rw [← h]; exact List.mem_map_of_mem hp')
theorem lane_cop {l2 : List Pr} {xs : List S35} (h : l2.map (·.1) = xs) (hp : ∀ x ∈ xs, cop x = x) : ∀ p ∈ l2, cop p.1 = p.1 := fun p hp' => hp _ (by rw [← h]; exact List.mem_map_of_mem hp')
theorem left_cop (ys : List S35) (i : Nat) : ∀ x ∈ left ys i, cop x = x := by
  intro x hx
  unfold left at hx
  rcases List.mem_append.1 hx with h | h
  · exact cop_rec (recF_mem h).2
  · obtain ⟨y, -, rfl⟩ := List.mem_map.1 h
    exact cop_cop y
theorem left_parts (ys : List S35) (i : Nat) (hp : ∀ y ∈ ys, partsR y.f1 ≤ 100000) : ∀ x ∈ left ys i, partsR x.f1 ≤ 100000 := by
  intro x hx
  unfold left at hx
  rcases List.mem_append.1 hx with h | h
  · exact hp x (List.mem_of_mem_take (recF_mem h).1)
  · obtain ⟨y, hy, rfl⟩ := List.mem_map.1 h
    exact Nat.le_trans (partsR_cop y) (hp y (List.mem_of_mem_drop hy))
theorem left_len (ys : List S35) (i : Nat) : (left ys i).length ≤ ys.length := by
  unfold left
  rw [List.length_append, List.length_map, List.length_drop]
  have := recF_len (ys.take i)
  rw [List.length_take] at this
  omega
theorem pull_mark {own : Nat → Nat} {w w' : World} {g : Nat} {lp : List Pr} {e : Ending} (h : PullAns own w g 0 lp e w') (ys : List S35) (i : Nat) (hi : i < ys.length) (hm : 0 < ys[i].f0) (hl : lp.map (·.1) = left ys i) :
    ∃ l8 A8 cc8 own8 c8 cap8 s8 r8, e = .returned (.tuple #[.int .i64 ys[i].f0, .slice A8 (recF (ys.take i)).length cc8]) ∧ Hid (l8.map (·.1) = left ys (i + 1)) ∧ Hid ((recF (ys.take i)).length ≤ cc8) ∧ Hid (LaneAt own8 w' g 0 false l8 c8 cap8 s8 r8) ∧ Hid (Upd (· = 1) own w own8 w') ∧
      Hid (StC k33 own8 w' A8 (recF (ys.take i)).length ((recF (ys.take i)).map (·.f1))) := by
  obtain ⟨h1, h2⟩ := left_mark ys i hi hm
  rcases h with ⟨hno, -, -⟩ | ⟨a, y, b, l8, A8, cc8, own8, c8, cap8, s8, r8, ha, hna, hy, hl8, he, hcc, hL, hU, hS⟩
  · exfalso
    have hmem : cop ys[i] ∈ lp.map (·.1) := by rw [hl, h1]; simp
    obtain ⟨p, hp, hpe⟩ := List.mem_map.1 hmem
    have := hno p hp
    rw [hpe, cop_f0] at this
    omega
  · rw [hl, h1] at ha
    obtain ⟨e1, e2, e3⟩ := split_one _ _ _ _ _ _ ha (fun x hx => by have := (recF_mem hx).2; omega) hna (by rw [cop_f0]; exact hm) hy
    subst e1
    subst e2
    subst e3
    rw [cop_f0] at he
    exact ⟨l8, A8, cc8, own8, c8, cap8, s8, r8, he, Lib.hid (hl8.trans h2.symm), Lib.hid hcc, Lib.hid hL, Lib.hid hU, Lib.hid hS⟩
theorem pull_none {own : Nat → Nat} {w w' : World} {g : Nat} {lp : List Pr} {e : Ending} (h : PullAns own w g 0 lp e w') (ys : List S35) (hl : lp.map (·.1) = recF ys) :
    e = .returned (.tuple #[.int .i64 0, .slice none 0 0]) ∧ LaneTo own w g 0 false lp w' := by
  rcases h with ⟨-, h1, h2⟩ | ⟨a, y, b, l8, A8, cc8, own8, c8, cap8, s8, r8, ha, hna, hy, -⟩
  · exact ⟨h1, h2⟩
  · exfalso
    rw [hl] at ha
    have : y ∈ recF ys := by rw [ha]; simp
    have := (recF_mem this).2
    omega
set_option maxRecDepth 100000 in
set_option maxHeartbeats 20000000 in
theorem lanePull_walk (l : List S35) (A : Option Addr) (cl : Nat) (w : World) (hC : Kd.C k35 w A l.length l) (hcl : l.length ≤ cl) (hlen : ∀ y ∈ l, lenR y.f1) :
    Calls Try.prog 3 #[.slice A l.length cl] w fun e w' => e = .returned (.bool true) ∧ Below w.heap.size w w' := by
  have HI := Lib.hid (Items_6 l A cl w hC hlen)
  obtain ⟨n, hn⟩ : ∃ n, n = l.length := ⟨_, rfl⟩
  have Hn := Lib.hid hn
  have HC := Lib.hid hC
  rw [← hn] at HI ⊢
  clear hC hcl hlen hn
  go_enter Try.func3, Try.ntmps3
  go_upto_if 25 with (go_at_call 6; refine HI.out.mono ?_; rintro e w1 ⟨b, rfl, hb, hB1⟩)
  clear HI
  cases b with
  | false =>
    clear hb
    go_wp2_with (fail)
    go_ret
    exact ⟨rfl, hB1⟩
  | true =>
  have hpp := hb rfl
  have HB1 := Lib.hid hB1
  have HPP : Hid (partsIs l ≤ 10000) := Lib.hid hpp
  clear hb hB1 hpp
  have HN := Lib.hid (new7_ok (fun _ => 0) w1 0 (by decide) (by decide))
  go_upto_block 0 with (go_at_call 7; refine HN.out.mono ?_; rintro e w2 ⟨g, c1, own1, cap1, s1, r1, rfl, HL1, HU1, hg1⟩)
  clear HN
  have hn9 : n ≤ 10000 := by rw [Hn.out]; exact Nat.le_trans (partsIs_len l) HPP.out
  have HUw : Hid (Upd (fun _ => False) (fun _ => 0) w own1 w2) := Lib.hid ((Upd.of_below' HB1.out (fun _ _ => rfl)).then HU1.out)
  have HB2 : Hid (Below w.heap.size w w2) := Lib.hid (HUw.out.below (Nat.le_refl _) (fun _ _ h => h))
  clear HU1 hg1
  obtain ⟨ys, hys⟩ : ∃ ys, ys = l.filter (fun x => decide (0 ≤ x.f0)) := ⟨_, rfl⟩
  obtain ⟨m, hm⟩ : ∃ m, m = ys.length := ⟨_, rfl⟩
  have Hys := Lib.hid hys
  have Hm := Lib.hid hm
  have hm9 : m ≤ 10000 := by rw [hm, hys]; exact Nat.le_trans (List.length_filter_le _ _) (by rw [← Hn.out]; exact hn9)
  have Hyp : Hid (∀ y ∈ ys, partsR y.f1 ≤ 100000) := Lib.hid (fun y hy => by
    rw [Hys.out] at hy
    exact Nat.le_trans (partsIs_mem (List.mem_filter.1 hy).1) (by have := HPP.out; omega))
  have Hy0 : Hid (∀ y ∈ ys, 0 ≤ y.f0) := Lib.hid (fun y hy => by
    rw [Hys.out] at hy
    simpa using (List.mem_filter.1 hy).2)
  clear hys hm
  -- what may go in
  go_cut [5] (fun v5 wx => ∃ Ai ci q, v5 = .slice Ai m ci ∧ Hid (q.map (·.1) = ys) ∧ Hid ((pk k35 own1 w2).R 35 wx w2.heap.size (fun _ => True) (.slice Ai m ci) q) ∧ Hid (Below w2.heap.size w2 wx))
  case first =>
    go_wp2_with (fail)
    go_loopw [5, 6] (fun v5 v6 wr => ∃ k, k ≤ n ∧ v6 = .int .i64 (k : Nat) ∧ ∃ q, Hid (q.map (·.1) = (l.take k).filter (fun x => decide (0 ≤ x.f0))) ∧ Hid ((pk k35 own1 w2).R 35 wr w2.heap.size (fun _ => True) v5 q) ∧ Hid (Below w2.heap.size w2 wr)) (fun _ v6 _ => n - (intOf v6).toNat)
    case atStart => exact ⟨0, Nat.zero_le _, rfl, [], Lib.hid (by simp), Lib.hid (Kd.R_nil _ _ _ _ _), Lib.hid (Below.refl _ _)⟩
    case round =>
      obtain ⟨k, hk, rfl, q, HQ, HO, HB⟩ := hrel
      obtain ⟨Ai, ci, hv⟩ := Kd.R_slice HO.out
      subst hv
      have Hql : Hid (q.length ≤ k) := Lib.hid (by have := congrArg List.length HQ.out; rw [List.length_map] at this; rw [this]; refine Nat.le_trans (List.length_filter_le _ _) ?_; rw [List.length_take]; omega)
      by_cases hlt : k < n
      · obtain ⟨ad, B5, d5, B6, d6, rfl, a0, a1, a2, a3, a4, a5, a6, hl5, hC5, hl6, hC6⟩ := at_T35 HC.out (k : Int) (by omega) (by rw [← Hn.out]; omega)
        have htk : l.take (k + 1) = l.take k ++ [rd_T35 l (k : Int)] := by
          rw [take_getD _ z35 _ (by rw [← Hn.out]; exact hlt)]
          unfold rd_T35
          rw [Int.toNat_natCast]
        generalize rd_T35 l (k : Int) = y at *
        rw [Int.toNat_natCast] at a0 a1 a2 a3 a4 a5 a6
        have hst : St k35 own1 w2 y [.int .i64 y.f0, .string y.f1.f0, .int .i64 y.f1.f1.f0, .int .i64 y.f1.f1.f1, .string y.f1.f1.f2, .slice B5 y.f1.f1.f3.length d5, .slice B6 y.f1.f2.length d6] := (came_St (own := fun _ => 0) (k35_mk w y hl5 hC5 hl6 hC6) (fun _ _ => rfl)).upd (S := fun _ => False) (by decide) HUw.out
        have HST := Lib.hid hst
        have Htk := Lib.hid htk
        have HBx : Hid (Below w.heap.size w wr) := Lib.hid (HB2.out.trans (HB.out.mono HB2.out.size))
        replace a0 := pw_cell_below HBx.out a0
        replace a1 := pw_cell_below HBx.out a1
        replace a2 := pw_cell_below HBx.out a2
        replace a3 := pw_cell_below HBx.out a3
        replace a4 := pw_cell_below HBx.out a4
        replace a5 := pw_cell_below HBx.out a5
        replace a6 := pw_cell_below HBx.out a6
        clear hst htk hl5 hC5 hl6 hC6
        by_cases hneg : 0 ≤ y.f0
        · have k1 : decide (0 ≤ y.f0) = true := decide_eq_true hneg
          have Hneg := Lib.hid hneg
          clear hneg
          go_wp2_with (at_builtin; refine Kd.R_append (pk k35 own1 w2) (w0 := w2) w2.heap.size rfl (.tmp 48) (.tmp 53) 22 35 (.agg #[.int .i64 0, .string ⟨#[]⟩, .int .i64 0, .int .i64 0, .string ⟨#[]⟩, .slice none 0 0, .slice none 0 0]) 104 rfl Try.underlying22 info35 rfl (show 0 < 7 by decide) (by decide) (.slice Ai q.length ci) q (y, [.int .i64 y.f0, .string y.f1.f0, .int .i64 y.f1.f1.f0, .int .i64 y.f1.f1.f1, .string y.f1.f1.f2, .slice B5 y.f1.f1.f3.length d5, .slice B6 y.f1.f2.length d6]) _ (fun _ => True) (fun k_ => True ∧ some k_ ≠ (Value.slice Ai q.length ci).ownBlock) rfl rfl ?hp (fun _ hk => hk) (fun _ _ => trivial) HO.out HB.out HB.out.size ?hl ?_
                       case hp => exact ⟨rfl, HST.out⟩
                       case hl => have := Hql.out; omega
                       intro v1 w5 O2 B2 hg hat
                       have HO2 := Lib.hid O2
                       have HB3 := Lib.hid B2
                       clear O2 B2 hg hat)
          go_roundw
          case rel =>
            refine ⟨k + 1, by omega, by go_num, q ++ [(y, [.int .i64 y.f0, .string y.f1.f0, .int .i64 y.f1.f1.f0, .int .i64 y.f1.f1.f1, .string y.f1.f1.f2, .slice B5 y.f1.f1.f3.length d5, .slice B6 y.f1.f2.length d6])], Lib.hid ?_, HO2, HB3⟩
            rw [List.map_append, HQ.out, Htk.out, List.filter_append]
            congr 1
            simp [Hneg.out]
          case measure => simp [intOf]; omega
        · have k1 : decide (0 ≤ y.f0) = false := decide_eq_false hneg
          have Hneg := Lib.hid hneg
          clear hneg
          go_wp2_with (fail)
          go_roundw
          case rel =>
            refine ⟨k + 1, by omega, by go_num, q, Lib.hid ?_, HO, HB⟩
            rw [HQ.out, Htk.out, List.filter_append]
            have : decide (0 ≤ y.f0) = false := decide_eq_false (by have := Hneg.out; omega)
            simp [List.filter_cons, this]
          case measure => simp [intOf]; omega
      · obtain rfl : k = n := by omega
        rw [List.take_of_length_le (by rw [Hn.out]; exact Nat.le_refl _), ← Hys.out] at HQ
        have hqm : q.length = m := by rw [Hm.out, ← HQ.out, List.length_map]
        go_wp2_with (fail)
        go_meet
        exact ⟨Ai, ci, q, by rw [hqm], HQ, by rw [← hqm]; exact HO, HB⟩
  case rest =>
  obtain ⟨Ai, ci, q, rfl, HQ, HO, HBc⟩ := hcut
  obtain ⟨w3, rfl⟩ : ∃ w3 : World, w3 = wc := ⟨_, rfl⟩
  obtain ⟨own3, hown3⟩ : ∃ own3 : Nat → Nat, own3 = fresh own1 w2 0 := ⟨_, rfl⟩
  have HU3 : Hid (Upd (fun _ => False) own1 w2 own3 w3) := Lib.hid (by rw [hown3]; exact Upd.of_below HBc.out 0)
  have HL3 := Lib.hid (HL1.out.upd (by decide) (by decide) HU3.out)
  have hR3 := Kd.R_mono (Kd.R_bound (pk_R HO.out (S := fun _ => False) (by decide) HU3.out)) (ok' := fun k => own3 k = 0) (fun i hi => by rw [hown3]; exact fresh_new hi.2.1)
  have HPQ : Hid (StC (pk k35 own3 w3) own3 w3 Ai m q) := Lib.hid (StC.made hR3)
  have HIN : Hid (StC k35 own3 w3 Ai m ys) := Lib.hid (by have := StC_pk HPQ.out; rw [HQ.out] at this; exact this)
  have HB3 : Hid (Below w.heap.size w w3) := Lib.hid (HB2.out.trans (HBc.out.mono HB2.out.size))
  have hput := put8 own3 w3 g c1 cap1 s1 r1 0 [] HL3.out ys Ai ci (by rw [← Hm.out]; exact HIN.out) (by simp; rw [← Hm.out]; omega) Hyp.out
  rw [← Hm.out] at hput
  have HPUT := Lib.hid hput
  have HPA : Hid (putP 0 (([] : List Pr).map (·.1)) ys = (m, 0, ys.map cop)) := Lib.hid (by rw [putP_all ys _ Hy0.out, ← Hm.out]; rfl)
  have Hci : Hid (m ≤ ci) := Lib.hid (Kd.R_reads' HO.out).2.1
  clear hown3 hR3 HO HBc hput HL1
  have HT3 : Hid (Upd (· = 1) (fun _ => 0) w own3 w3) := Lib.hid ((HUw.out.then HU3.out).mono (fun _ h => h.elim))
  clear HU3 HUw
  go_upto_block 2 with (first
    | (go_at_call 8; refine HPUT.out.mono ?_; intro e w4 hq; obtain ⟨l4, hl4, he, own4, c4, cap4, s4, r4, hL4, hU4⟩ := hq; rw [HPA.out] at hl4 he; simp only [] at hl4 he; subst he
       have HL4 := Lib.hid hL4
       have HU4 := Lib.hid hU4
       have Hl4 := Lib.hid hl4
       clear hl4 hL4 hU4))
  have HPQ4 := Lib.hid (StC_pk_upd HPQ.out (S := (· = 1)) (by decide) HU4.out)
  have HIN4 := Lib.hid (HIN.out.upd (S := (· = 1)) (by decide) HU4.out)
  have HT4 := Lib.hid (HT3.out.then HU4.out)
  clear HPUT HPA HPQ HIN HT3 HL3 HU4
  -- the records that went in
  obtain ⟨m2, hm2⟩ : ∃ m2, m2 = (recF ys).length := ⟨_, rfl⟩
  have Hm2 := Lib.hid hm2
  have hm29 : m2 ≤ 10000 := by rw [hm2]; exact Nat.le_trans (recF_len ys) (by rw [← Hm.out]; exact hm9)
  clear hm2
  go_cut [9] (fun v9 wx => ∃ Ar cr q9, v9 = .slice Ar m2 cr ∧ Hid (q9.map (·.1) = (recF ys).map (·.f1)) ∧ Hid ((pk k33 own4 w4).R 33 wx w4.heap.size (fun _ => True) (.slice Ar m2 cr) q9) ∧ Hid (Below w4.heap.size w4 wx))
  case first =>
    go_wp2_with (fail)
    go_loopw [9, 10] (fun v9 v10 wr => ∃ k, k ≤ m ∧ v10 = .int .i64 (k : Nat) ∧ ∃ q9 : List (S33 × List Value), Hid (q9.map (·.1) = (recF (ys.take k)).map (·.f1)) ∧ Hid ((pk k33 own4 w4).R 33 wr w4.heap.size (fun _ => True) v9 q9) ∧ Hid (Below w4.heap.size w4 wr)) (fun _ v10 _ => m - (intOf v10).toNat)
    case atStart => exact ⟨0, Nat.zero_le _, rfl, [], Lib.hid (by simp [recF]), Lib.hid (Kd.R_nil _ _ _ _ _), Lib.hid (Below.refl _ _)⟩
    case round =>
      obtain ⟨k, hk, rfl, q9, HQ9, HO, HB⟩ := hrel
      obtain ⟨Ar, cr, hv⟩ := Kd.R_slice HO.out
      subst hv
      have Hql : Hid (q9.length ≤ k) := Lib.hid (by have := congrArg List.length HQ9.out; rw [List.length_map, List.length_map] at this; rw [this]; refine Nat.le_trans (recF_len _) ?_; rw [List.length_take]; omega)
      by_cases hlt : k < m
      · have hkq : k < q.length := by rw [lane_len HQ.out, ← Hm.out]; exact hlt
        obtain ⟨ad, y, B5, d5, B6, d6, rfl, hy, hsy, a0, a1, a2, a3, a4, a5, a6⟩ := at_pk (Kd.C_below HPQ4.out.now HB.out) k hkq
        have hys : ys[k]'(by rw [← Hm.out]; exact hlt) = y := by
          have : (q.map (·.1))[k]'(by rw [List.length_map]; exact hkq) = y := by rw [List.getElem_map, hy]
          rw [← this]
          congr 1
          exact HQ.out.symm
        have Htk : Hid (recF (ys.take (k + 1)) = recF (ys.take k) ++ if y.f0 = 0 then [y] else []) := Lib.hid (by rw [List.take_succ_eq_append_getElem (by rw [← Hm.out]; exact hlt), hys, recF_snoc])
        have HSY := Lib.hid (St33_of hsy)
        clear hy hsy hys hkq
        by_cases hz : y.f0 = 0
        · have k1 : (y.f0 == 0) = true := by simp [hz]
          rw [if_pos hz] at Htk
          clear hz
          go_wp2_with (first
            | (at_builtin; refine Kd.R_append (pk k33 own4 w4) (w0 := w4) w4.heap.size rfl (.tmp 81) (.tmp 87) 38 33 (.agg #[.string ⟨#[]⟩, .int .i64 0, .int .i64 0, .string ⟨#[]⟩, .slice none 0 0, .slice none 0 0]) 96 rfl Try.underlying38 info33 rfl (show 0 < 6 by decide) (by decide) (.slice Ar q9.length cr) q9 (y.f1, [.string y.f1.f0, .int .i64 y.f1.f1.f0, .int .i64 y.f1.f1.f1, .string y.f1.f1.f2, .slice B5 y.f1.f1.f3.length d5, .slice B6 y.f1.f2.length d6]) _ (fun _ => True) (fun k_ => True ∧ some k_ ≠ (Value.slice Ar q9.length cr).ownBlock) rfl rfl ?hp (fun _ hk => hk) (fun _ _ => trivial) HO.out HB.out HB.out.size ?hl ?_
               case hp => exact ⟨rfl, HSY.out⟩
               case hl => have := Hql.out; omega
               intro v1 w5 O2 B2 hg hat
               have HO2 := Lib.hid O2
               have HB5 := Lib.hid B2
               clear O2 B2 hg hat))
          go_roundw
          case rel => exact ⟨k + 1, by omega, by go_num, q9 ++ [(y.f1, [.string y.f1.f0, .int .i64 y.f1.f1.f0, .int .i64 y.f1.f1.f1, .string y.f1.f1.f2, .slice B5 y.f1.f1.f3.length d5, .slice B6 y.f1.f2.length d6])], Lib.hid (by rw [List.map_append, HQ9.out, Htk.out, List.map_append]; rfl), HO2, HB5⟩
          case measure => simp [intOf]; omega
        · have k1 : (y.f0 == 0) = false := by simp [hz]
          rw [if_neg hz, List.append_nil] at Htk
          clear hz
          go_wp2_with (fail)
          go_roundw
          case rel => exact ⟨k + 1, by omega, by go_num, q9, Lib.hid (by rw [HQ9.out, Htk.out]), HO, HB⟩
          case measure => simp [intOf]; omega
      · obtain rfl : k = m := by omega
        rw [List.take_of_length_le (by rw [Hm.out]; exact Nat.le_refl _)] at HQ9
        have hqm : q9.length = m2 := by have := congrArg List.length HQ9.out; rw [List.length_map, List.length_map] at this; rw [this, Hm2.out]
        go_wp2_with (fail)
        go_meet
        exact ⟨Ar, cr, q9, by rw [hqm], HQ9, by rw [← hqm]; exact HO, HB⟩
  case rest =>
  obtain ⟨Ar, cr, q9, rfl, HQ9, HO9, HB9⟩ := hcut
  obtain ⟨w5, rfl⟩ : ∃ w5 : World, w5 = wc := ⟨_, rfl⟩
  obtain ⟨own5, hown5⟩ : ∃ own5 : Nat → Nat, own5 = fresh own4 w4 0 := ⟨_, rfl⟩
  have Hown5 := Lib.hid hown5
  have hmk := (marks9 ys Ai ci w5 (by rw [← Hm.out]; exact Kd.C_below HIN4.out.now HB9.out) (by rw [← Hm.out]; exact Hci.out) (by rw [← Hm.out]; omega))
  rw [← Hm.out] at hmk
  have HMK := Lib.hid hmk
  clear hmk
  go_upto_block 4 with (first
    | (go_at_call 9; refine HMK.out.mono ?_; rintro e w6 ⟨vp, rfl, hP6, hB6⟩
       have HP6 := hP6
       have HB6 := hB6
       clear hP6 hB6))
  obtain ⟨np, hnp⟩ : ∃ np, np = (places ys 0).length := ⟨_, rfl⟩
  obtain ⟨Ap, cp, hvp⟩ := Kd.R_slice HP6.out
  rw [← hnp] at hvp
  subst hvp
  have Hnp := Lib.hid hnp
  have HB46 : Hid (Below w4.heap.size w4 w6) := Lib.hid (HB9.out.trans (HB6.out.mono HB9.out.size))
  have HU46 : Hid (Upd (fun _ => False) own4 w4 own5 w6) := Lib.hid (by rw [hown5]; exact Upd.of_below HB46.out 0)
  have HL6 := Lib.hid (HL4.out.upd (by decide) (by decide) HU46.out)
  have HPQ6 := Lib.hid (StC_pk_upd HPQ4.out (S := fun _ => False) (by decide) HU46.out)
  have HT6 := Lib.hid (HT4.out.then (HU46.out.mono (fun _ h => h.elim)))
  have HU45 : Upd (fun _ => False) own4 w4 own5 w5 := by rw [hown5]; exact Upd.of_below HB9.out 0
  have hR9 := Kd.R_mono (Kd.R_bound (pk_R HO9.out (S := fun _ => False) (by decide) HU45)) (ok' := fun k => own5 k = 0) (fun i hi => by rw [hown5]; exact fresh_new hi.2.1)
  have HRP : Hid (StC (pk k33 own5 w6) own5 w6 Ar m2 q9) := Lib.hid (StC_pk_upd (StC.made hR9) (S := fun _ => False) (own' := own5) (by decide) (Upd.of_below' HB6.out (fun _ _ => rfl)))
  have HRC : Hid (StC k33 own5 w6 Ar m2 ((recF ys).map (·.f1))) := Lib.hid (by have := StC_pk HRP.out; rw [HQ9.out] at this; exact this)
  have HPL : Hid (StC (Kd.int .i64) own5 w6 Ap np (places ys 0)) := Lib.hid (StC.made (Kd.R_mono (Kd.R_bound HP6.out) (fun i hi => by rw [hown5]; exact fresh_new (Nat.le_trans HB9.out.size hi.2.1))))
  have Hcr : Hid (m2 ≤ cr) := Lib.hid (Kd.R_reads' HO9.out).2.1
  clear hnp
  clear HMK HP6 HB6 HB46 HU46 HU45 hR9 HO9 HL4 HPQ4 HIN4 HT4 hown5 Hown5
  -- all markers are pulled
  go_cut [] (fun wx => ∃ lp own7 c7 cap7 s7 r7, Hid (lp.map (·.1) = recF ys) ∧ Hid (LaneAt own7 wx g 0 false lp c7 cap7 s7 r7) ∧ Hid (Upd (· = 1) own5 w6 own7 wx))
  case first =>
    go_wp2_with (fail)
    go_loopw [12, 13] (fun v12 v13 wr => ∃ (k cm : Nat) (lp : List Pr) (ownr : Nat → Nat) (c7 cap7 s7 r7 : Nat), k ≤ m ∧ v13 = .int .i64 k ∧ v12 = .int .i64 cm ∧ Hid (cm = cntM (ys.take k)) ∧ Hid (lp.map (·.1) = left ys k) ∧ Hid (LaneAt ownr wr g 0 false lp c7 cap7 s7 r7) ∧ Hid (Upd (· = 1) own5 w6 ownr wr)) (fun _ v13 _ => m - (intOf v13).toNat)
    case atStart => exact ⟨0, 0, l4, own5, c4, cap4, s4, r4, Nat.zero_le _, rfl, rfl, Lib.hid (by simp [cntM]), by rw [left_zero]; exact Hl4, HL6, Lib.hid (Upd.refl _ _ _)⟩
    case round =>
      obtain ⟨k, cm, lp, ownr, c7, cap7, s7, r7, hk, rfl, rfl, HCM, HLP, HL, HU⟩ := hrel
      by_cases hlt : k < m
      · have hkq : k < q.length := by rw [lane_len HQ.out, ← Hm.out]; exact hlt
        have hky : k < ys.length := by rw [← Hm.out]; exact hlt
        have hcm9 : cm ≤ 10000 := by rw [HCM.out]; refine Nat.le_trans (cntM_le _) ?_; rw [List.length_take]; omega
        have hin := StC_pk_upd HPQ6.out (S := (· = 1)) (by decide) HU.out
        obtain ⟨ad, y, B5, d5, B6, d6, rfl, hy, hsy, a0, -⟩ := at_pk hin.now k hkq
        have hys : ys[k] = y := by
          have : (q.map (·.1))[k]'(by rw [List.length_map]; exact hkq) = y := by rw [List.getElem_map, hy]
          rw [← this]
          congr 1
          exact HQ.out.symm
        have hy0 : 0 ≤ y.f0 := by rw [← hys]; exact Hy0.out _ (List.getElem_mem _)
        have Hy := Lib.hid hy
        have Hkq := Lib.hid hkq
        have Hky := Lib.hid hky
        have Hyk : Hid (∃ h : k < ys.length, ys[k] = y) := Lib.hid ⟨hky, hys⟩
        by_cases hmk : 0 < y.f0
        · have k1 : decide (0 < y.f0) = true := decide_eq_true hmk
          have hpa := places_at ys 0 k hky Hy0.out (by rw [hys]; exact hmk)
          have HPA := Lib.hid hpa
          have Hmk := Lib.hid hmk
          have HPU := Lib.hid (pull10 ownr wr g c7 cap7 s7 r7 0 lp HL.out (by rw [lane_len HLP.out]; have := left_len ys k; rw [← Hm.out] at this; omega) (lane_parts HLP.out (left_parts ys k Hyp.out)) (lane_cop HLP.out (left_cop ys k)))
          obtain ⟨h, hh⟩ : ∃ h, h = (recF (ys.take k)).length := ⟨_, rfl⟩
          have Hh := Lib.hid hh
          clear hin hy hsy hys hpa hmk hy0 hh
          go_upto_region 28 with (first
            | (go_at_call 10; refine HPU.out.mono ?_; intro e w8 hq
               obtain ⟨l8, A8, cc8, own8, c8, cap8, s8, r8, he, HL8a, Hcc8, HL8, HU8, HS8⟩ := pull_mark hq ys k Hky.out (by obtain ⟨_, h2⟩ := Hyk.out; rw [h2]; exact Hmk.out) HLP.out
               have he2 : e = .returned (.tuple #[.int .i64 y.f0, .slice A8 h cc8]) := by obtain ⟨_, h2⟩ := Hyk.out; rw [he, h2, Hh.out]
               clear he
               subst he2
               clear hq))
          have HU68 := Lib.hid (HU.out.then HU8.out)
          clear HPU a0
          obtain ⟨ad2, y2, E5, f5, E6, f6, hA2, hy2, -, a0, -⟩ := at_pk (StC_pk_upd HPQ6.out (S := (· = 1)) (by decide) HU68.out).now k Hkq.out
          obtain rfl := Option.some.inj hA2
          have hyy : y2 = y := by have h1 := hy2.symm.trans Hy.out; exact (Prod.mk.inj h1).1
          rw [hyy] at a0
          obtain ⟨adp, hAp, p0⟩ := Kd.at_int (HPL.out.upd (S := (· = 1)) (by decide) HU68.out).now (cm : Int) (by omega) (by have h1 := HPA.out.1; rw [← Hnp.out, ← HCM.out] at h1; omega)
          rw [Int.toNat_natCast] at p0
          have hcn : cm < np := by have h1 := HPA.out.1; rw [← Hnp.out, ← HCM.out] at h1; exact h1
          have hrd : rd (places ys 0) (cm : Int) = (h : Int) := by
            have h1 := HPA.out.2
            rw [← HCM.out, ← Hh.out] at h1
            unfold rd
            rw [Int.toNat_natCast, h1]
            omega
          rw [hrd] at p0
          have hhm : h ≤ m2 := by
            rw [Hh.out, Hm2.out]
            obtain ⟨b, hb⟩ := recF_map_take ys k
            have := congrArg List.length hb
            rw [List.length_append, List.length_map, List.length_map] at this
            omega
          have htake : ((recF ys).map (·.f1)).take h = (recF (ys.take k)).map (·.f1) := by
            obtain ⟨b, hb⟩ := recF_map_take ys k
            rw [hb, Hh.out]
            exact List.take_left' (by rw [List.length_map])
          have hlm : ((recF (ys.take k)).map (·.f1)).length = h := by rw [List.length_map, Hh.out]
          have hcut : ∀ W : World, (Instr.slice 38 (.slice Ar m2 cr) none (some (.int .i64 (h : Int))) none).run Try.prog W = .ok (.slice Ar h cr) W := by
            obtain ⟨i0, hi0, -, -, -⟩ := info_parts info33
            have := cut_to (P := Try.prog) 38 33 .i64 Try.underlying38 hi0 Ar m2 cr (h : Int) (by omega) (by omega) Hcr.out
            rw [Int.toNat_natCast] at this
            exact this
          have hca : Kd.C k33 w8 Ar ((recF (ys.take k)).map (·.f1)).length ((recF (ys.take k)).map (·.f1)) := by
            have h1 := (HRC.out.upd (S := (· = 1)) (by decide) HU68.out).now
            have h2 : ((recF ys).map (·.f1)).length = m2 := by rw [List.length_map, Hm2.out]
            rw [← h2] at h1
            have h3 := Kd.C_take h1 (m := h) (by rw [h2]; exact hhm)
            rw [htake] at h3
            exact h3
          have hsm := same11 ((recF (ys.take k)).map (·.f1)) A8 Ar cc8 cr w8 (by rw [hlm]; have := HS8.out.now; rw [← Hh.out] at this; exact this) (by rw [hlm, Hh.out]; exact Hcc8.out) hca (by rw [hlm]; exact Nat.le_trans hhm Hcr.out) (by rw [hlm]; omega) (fun z hz => by
            obtain ⟨x, hx, rfl⟩ := List.mem_map.1 hz
            exact Hyp.out x (List.mem_of_mem_take (recF_mem hx).1))
          rw [hlm] at hsm
          have HSM := Lib.hid hsm
          subst hAp
          clear hA2 hy2 hyy hrd htake hlm hca hsm
          go_wp2_with (first
            | (go_at_call 11; refine HSM.out.mono ?_; rintro e w9 ⟨rfl, HB9⟩))
          go_roundw
          case rel =>
            refine ⟨k + 1, cm + 1, l8, own8, c8, cap8, s8, r8, by omega, by go_num, by go_num, Lib.hid ?_, HL8a, Lib.hid (HL8.out.upd (S := fun _ => False) (by decide) (by decide) (Upd.of_below' HB9.out (fun _ _ => rfl))), Lib.hid (HU68.out.then (Upd.of_below' HB9.out (fun _ _ => rfl)))⟩
            obtain ⟨hk1, hk2⟩ := Hyk.out
            rw [List.take_succ_eq_append_getElem hk1, cntM_snoc, hk2, if_pos Hmk.out, HCM.out]
          case measure => simp [intOf]; omega
        · have k1 : decide (0 < y.f0) = false := decide_eq_false hmk
          have Hz : Hid (y.f0 = 0) := Lib.hid (by omega)
          clear hin hy hsy hys hmk hy0
          go_wp2_with (fail)
          go_roundw
          case rel =>
            obtain ⟨hk1, hk2⟩ := Hyk.out
            refine ⟨k + 1, cm, lp, ownr, c7, cap7, s7, r7, by omega, by go_num, rfl, Lib.hid ?_, Lib.hid ?_, HL, HU⟩
            · rw [List.take_succ_eq_append_getElem hk1, cntM_snoc, hk2, if_neg (by have := Hz.out; omega), HCM.out, Nat.add_zero]
            · rw [left_rec ys k hk1 (by rw [hk2]; exact Hz.out)]; exact HLP.out
          case measure => simp [intOf]; omega
      · obtain rfl : k = m := by omega
        go_wp2_with (fail)
        go_meet
        exact ⟨lp, ownr, c7, cap7, s7, r7, Lib.hid (by rw [HLP.out, Hm.out, left_end]), HL, HU⟩
  case rest =>
  obtain ⟨lp, own7, c7, cap7, s7, r7, HLP, HL7, HU67⟩ := hcut
  have HT7 := Lib.hid (HT6.out.then HU67.out)
  have HRC7 := Lib.hid (HRC.out.upd (S := (· = 1)) (by decide) HU67.out)
  have Hrp : Hid (∀ x ∈ recF ys, partsR x.f1 ≤ 100000) := Lib.hid (fun x hx => Hyp.out x (recF_mem hx).1)
  have HPU := Lib.hid (pull10 own7 wc g c7 cap7 s7 r7 0 lp HL7.out (by rw [lane_len HLP.out, ← Hm2.out]; omega) (lane_parts HLP.out Hrp.out) (lane_cop HLP.out (fun x hx => cop_rec (recF_mem hx).2)))
  clear HL6 HT6 HRC HPL HPQ6 HRP HU67 HL7 Hci Hnp
  go_upto_block 6 with (first
    | (go_at_call 10; refine HPU.out.mono ?_; intro e w8 hq
       obtain ⟨he, own8, c8, cap8, s8, r8, hL8, hU8⟩ := pull_none hq ys HLP.out
       subst he
       have HL8 := Lib.hid hL8
       have HU8 := Lib.hid hU8
       clear hq hL8 hU8))
  have HT8 := Lib.hid (HT7.out.then HU8.out)
  have HRC8 := Lib.hid (HRC7.out.upd (S := (· = 1)) (by decide) HU8.out)
  clear HT7 HRC7 HPU HU8
  -- all records are taken
  go_cut [] (fun wx => ∃ own9 c9 cap9 s9 r9, Hid (LaneAt own9 wx g 0 false [] c9 cap9 s9 r9) ∧ Hid (Upd (· = 1) own8 w8 own9 wx))
  case first =>
    go_wp2_with (fail)
    go_loopw [18] (fun v18 wr => ∃ (k : Nat) (lk : List Pr) (ownr : Nat → Nat) (c9 cap9 s9 r9 : Nat), k ≤ m2 ∧ v18 = .int .i64 k ∧ Hid (lk.map (·.1) = (recF ys).drop k) ∧ Hid (LaneAt ownr wr g 0 false lk c9 cap9 s9 r9) ∧ Hid (Upd (· = 1) own8 w8 ownr wr)) (fun v18 _ => m2 - (intOf v18).toNat)
    case atStart => exact ⟨0, lp, own8, c8, cap8, s8, r8, Nat.zero_le _, rfl, HLP, HL8, Lib.hid (Upd.refl _ _ _)⟩
    case round =>
      obtain ⟨k, lk, ownr, c9, cap9, s9, r9, hk, rfl, HLK, HL, HU⟩ := hrel
      by_cases hlt : k < m2
      · have hkr : k < (recF ys).length := by rw [← Hm2.out]; exact hlt
        rcases lk with _ | ⟨⟨x, cs⟩, lk⟩
        · exfalso
          have := congrArg List.length HLK.out
          rw [List.length_map, List.length_drop] at this
          simp at this
          omega
        obtain ⟨D5, e5', D6, e6', hcs, -⟩ := k35_open (HL.out.st (x, cs) (by simp)).now
        simp only [] at hcs
        subst hcs
        have hsx : St k35 ownr wr x [.int .i64 x.f0, .string x.f1.f0, .int .i64 x.f1.f1.f0, .int .i64 x.f1.f1.f1, .string x.f1.f1.f2, .slice D5 x.f1.f1.f3.length e5', .slice D6 x.f1.f2.length e6'] := HL.out.st (x, _) (by simp)
        have hdr : x = (recF ys)[k] ∧ lk.map (·.1) = (recF ys).drop (k + 1) := by
          have h1 := HLK.out
          rw [List.drop_eq_getElem_cons hkr, List.map_cons] at h1
          exact List.cons.inj h1
        have hx0 : x.f0 = 0 := by rw [hdr.1]; exact (recF_mem (List.getElem_mem _)).2
        have Hx0 := Lib.hid hx0
        have Hdr := Lib.hid hdr.2
        have Hpx : Hid (partsR x.f1 ≤ 100000) := Lib.hid (by rw [hdr.1]; exact Hrp.out _ (List.getElem_mem _))
        have hrd : rd_T33 ((recF ys).map (·.f1)) (k : Int) = x.f1 := by
          unfold rd_T33
          rw [Int.toNat_natCast, List.getD_eq_getElem?_getD, List.getElem?_map, List.getElem?_eq_getElem hkr, hdr.1]
          rfl
        have Hrd := Lib.hid hrd
        have HTK := Lib.hid (take12_some ownr wr g c9 cap9 s9 r9 0 (x, [.int .i64 x.f0, .string x.f1.f0, .int .i64 x.f1.f1.f0, .int .i64 x.f1.f1.f1, .string x.f1.f1.f2, .slice D5 x.f1.f1.f3.length e5', .slice D6 x.f1.f2.length e6']) lk HL.out (by have := congrArg List.length HLK.out; rw [List.length_map, List.length_drop, List.length_cons] at this; have := Hm2.out; omega))
        have HSX := Lib.hid hsx
        clear hsx hdr hx0 hrd
        go_upto_region 38 with (first
          | (go_at_call 12; refine HTK.out.mono ?_; rintro e wt ⟨rfl, own9, c10, cap10, s10, r10, hL9, hU9⟩
             have HL9 := Lib.hid hL9
             have HU9 := Lib.hid hU9
             clear hL9 hU9))
        have HE := Lib.hid (blk_new wt (.cells #[.int .i64 x.f0, .string x.f1.f0, .int .i64 x.f1.f1.f0, .int .i64 x.f1.f1.f1, .string x.f1.f1.f2, .slice D5 x.f1.f1.f3.length e5', .slice D6 x.f1.f2.length e6'] 35))
        have HUb : Hid (Upd (· = 1) own9 wt own9 (wt.alloc (.cells #[.int .i64 x.f0, .string x.f1.f0, .int .i64 x.f1.f1.f0, .int .i64 x.f1.f1.f1, .string x.f1.f1.f2, .slice D5 x.f1.f1.f3.length e5', .slice D6 x.f1.f2.length e6'] 35))) := Lib.hid (Upd.box _)
        have HL10 := Lib.hid (HL9.out.upd (S := fun _ => False) (by decide) (by decide) (Upd.box (.cells #[.int .i64 x.f0, .string x.f1.f0, .int .i64 x.f1.f1.f0, .int .i64 x.f1.f1.f1, .string x.f1.f1.f2, .slice D5 x.f1.f1.f3.length e5', .slice D6 x.f1.f2.length e6'] 35)))
        have HU9b := Lib.hid (HU9.out.then HUb.out)
        clear HTK HU9 HUb HL9
        generalize wt.alloc (.cells #[.int .i64 x.f0, .string x.f1.f0, .int .i64 x.f1.f1.f0, .int .i64 x.f1.f1.f1, .string x.f1.f1.f2, .slice D5 x.f1.f1.f3.length e5', .slice D6 x.f1.f2.length e6'] 35) = wb at *
        generalize wt.heap.size = bx at *
        have HU8b := Lib.hid (HU.out.then HU9b.out)
        have hcr := (HRC8.out.upd (S := (· = 1)) (by decide) HU8b.out).now
        obtain ⟨adr, F4, g4, F5, g5, hAr, b0, b1, b2, b3, b4, b5, hl4', hC4, hl5', hC5⟩ := at_T33 hcr (k : Int) (by omega) (by omega)
        rw [Hrd.out] at b0 b1 b2 b3 b4 b5 hl4' hC4 hl5' hC5
        rw [Int.toNat_natCast] at b0 b1 b2 b3 b4 b5
        obtain ⟨t1, t2, t3, t4⟩ := St35_open (HSX.out.upd (S := (· = 1)) (by decide) HU9b.out)
        have HSAME : Hid (∀ W : World, PLift (Below wb.heap.size wb W) → Calls Try.prog 13 #[.agg #[.string x.f1.f0, .int .i64 x.f1.f1.f0, .int .i64 x.f1.f1.f1, .string x.f1.f1.f2, .slice D5 x.f1.f1.f3.length e5', .slice D6 x.f1.f2.length e6'], .agg #[.string x.f1.f0, .int .i64 x.f1.f1.f0, .int .i64 x.f1.f1.f1, .string x.f1.f1.f2, .slice F4 x.f1.f1.f3.length g4, .slice F5 x.f1.f2.length g5]] W fun e w' => e = .returned (.bool true) ∧ Hid (Below W.heap.size W w')) := Lib.hid (fun W hW => same13 x.f1 D5 D6 F4 F5 e5' e6' g4 g5 W (Kd.C_below t2.now hW.down) t1 (Kd.C_below t4.now hW.down) t3 (Kd.C_below hC4 hW.down) hl4' (Kd.C_below hC5 hW.down) hl5' Hpx.out)
        have hb0 : wb.cell? ⟨bx, 0, none⟩ = some (.int .i64 0) := by
          have := blk_at HE.out 0 (u := .int .i64 x.f0) rfl
          rw [Hx0.out] at this
          exact this
        subst hAr
        clear hcr hC4 hC5 hl4' hl5' t1 t2 t3 t4
        refine start_ (n := 17) (S := (fun w' => w'.cell? ⟨bx, 0, none⟩ = some (.int .i64 0) ∧ w'.cell? ⟨bx, 1, none⟩ = some (.string x.f1.f0) ∧ w'.cell? ⟨bx, 2, none⟩ = some (.int .i64 x.f1.f1.f0) ∧ w'.cell? ⟨bx, 3, none⟩ = some (.int .i64 x.f1.f1.f1) ∧ w'.cell? ⟨bx, 4, none⟩ = some (.string x.f1.f1.f2) ∧ w'.cell? ⟨bx, 5, none⟩ = some (.slice D5 x.f1.f1.f3.length e5') ∧ w'.cell? ⟨bx, 6, none⟩ = some (.slice D6 x.f1.f2.length e6') ∧ w'.cell? (adr.add (k * 6)) = some (.string x.f1.f0) ∧ w'.cell? ⟨(adr.add (k * 6)).block, (adr.add (k * 6)).off + 1, none⟩ = some (.int .i64 x.f1.f1.f0) ∧ w'.cell? ⟨(adr.add (k * 6)).block, (adr.add (k * 6)).off + 2, none⟩ = some (.int .i64 x.f1.f1.f1) ∧ w'.cell? ⟨(adr.add (k * 6)).block, (adr.add (k * 6)).off + 3, none⟩ = some (.string x.f1.f1.f2) ∧ w'.cell? ⟨(adr.add (k * 6)).block, (adr.add (k * 6)).off + 4, none⟩ = some (.slice F4 x.f1.f1.f3.length g4) ∧ w'.cell? ⟨(adr.add (k * 6)).block, (adr.add (k * 6)).off + 5, none⟩ = some (.slice F5 x.f1.f2.length g5))) (ds := []) #[false, false, false, false, false, false, false, false, false, false, false, false, false, false, false, false, false] (by kernel_rfl) rfl rfl ⟨(show wb.drew.cell? _ = _ from hb0), (show wb.drew.cell? _ = _ from blk_at HE.out 1 rfl), (show wb.drew.cell? _ = _ from blk_at HE.out 2 rfl), (show wb.drew.cell? _ = _ from blk_at HE.out 3 rfl), (show wb.drew.cell? _ = _ from blk_at HE.out 4 rfl), (show wb.drew.cell? _ = _ from blk_at HE.out 5 rfl), (show wb.drew.cell? _ = _ from blk_at HE.out 6 rfl), (show wb.drew.cell? _ = _ from b0), (show wb.drew.cell? _ = _ from b1), (show wb.drew.cell? _ = _ from b2), (show wb.drew.cell? _ = _ from b3), (show wb.drew.cell? _ = _ from b4), (show wb.drew.cell? _ = _ from b5)⟩ (fun hHeld => ?_)
        have HBo : Hid (Below wb.heap.size wb wb.drew) := Lib.hid (Below.refl _ _).drew
        generalize wb.drew = W at hHeld HBo ⊢
        refine pure_ (i := 0) (N := some 151) (v := ?_) (a' := ?_) #[true, false, false, false, false, false, false, false, false, false, false, false, false, false, false, false, false] rfl rfl (by kernel_rfl) (fun _ _ _ h => h) (Or.inl ⟨by rfl, ?_⟩) ?_ ?_
        rotate_left
        · intro w'
          go_simp
          with_reducible rfl
        rotate_left
        · simp only [Act.put, List.setIfInBounds_toArray, List.set_cons_zero, List.set_cons_succ]
          rfl
        refine pure_ (i := 1) (N := some 152) (v := ?_) (a' := ?_) #[true, true, false, false, false, false, false, false, false, false, false, false, false, false, false, false, false] rfl rfl (by kernel_rfl) (fun _ _ _ h => h) (Or.inl ⟨by rfl, ?_⟩) ?_ ?_
        rotate_left
        · intro w'
          go_simp
          with_reducible rfl
        rotate_left
        · simp only [Act.put, List.setIfInBounds_toArray, List.set_cons_zero, List.set_cons_succ]
          rfl
        refine pure_ (i := 2) (N := some 153) (v := ?_) (a' := ?_) #[true, true, true, false, false, false, false, false, false, false, false, false, false, false, false, false, false] rfl rfl (by kernel_rfl) (fun _ _ _ h => h) (Or.inl ⟨by rfl, ?_⟩) ?_ ?_
        rotate_left
        · intro w'
          go_simp
          with_reducible rfl
        rotate_left
        · simp only [Act.put, List.setIfInBounds_toArray, List.set_cons_zero, List.set_cons_succ]
          rfl
        refine pure_ (i := 3) (N := some 154) (v := ?_) (a' := ?_) #[true, true, true, true, false, false, false, false, false, false, false, false, false, false, false, false, false] rfl rfl (by kernel_rfl) (fun _ _ _ h => h) (Or.inl ⟨by rfl, ?_⟩) ?_ ?_
        rotate_left
        · intro w'
          go_simp
          with_reducible rfl
        rotate_left
        · simp only [Act.put, List.setIfInBounds_toArray, List.set_cons_zero, List.set_cons_succ]
          rfl
        refine take_ (i := 4) (N := some 155) (v := ?_) (a' := ?_) #[true, true, true, true, true, false, false, false, false, false, false, false, false, false, false, false, false] rfl rfl (by kernel_rfl) (fun _ _ _ h => h) (Or.inl ⟨by rfl, ?_⟩) hHeld ?_ ?_
        rotate_left
        · rintro w' ⟨s0, s1, s2, s3, s4, s5, s6, s7, s8, s9, s10, s11, s12⟩
          go_simp
          with_reducible rfl
        rotate_left
        · simp only [Act.put, List.setIfInBounds_toArray, List.set_cons_zero, List.set_cons_succ]
          rfl
        refine pure_ (i := 5) (N := some 156) (v := ?_) (a' := ?_) #[true, true, true, true, true, true, false, false, false, false, false, false, false, false, false, false, false] rfl rfl (by kernel_rfl) (fun _ _ _ h => h) (Or.inl ⟨by rfl, ?_⟩) ?_ ?_
        rotate_left
        · intro w'
          go_simp
          with_reducible rfl
        rotate_left
        · simp only [Act.put, List.setIfInBounds_toArray, List.set_cons_zero, List.set_cons_succ]
          rfl
        refine pure_ (i := 6) (N := some 157) (v := ?_) (a' := ?_) #[true, true, true, true, true, true, true, false, false, false, false, false, false, false, false, false, false] rfl rfl (by kernel_rfl) (fun _ _ _ h => h) (Or.inl ⟨by rfl, ?_⟩) ?_ ?_
        rotate_left
        · intro w'
          go_simp
          with_reducible rfl
        rotate_left
        · simp only [Act.put, List.setIfInBounds_toArray, List.set_cons_zero, List.set_cons_succ]
          rfl
        refine pure_ (i := 7) (N := some 158) (v := ?_) (a' := ?_) #[true, true, true, true, true, true, true, true, false, false, false, false, false, false, false, false, false] rfl rfl (by kernel_rfl) (fun _ _ _ h => h) (Or.inl ⟨by rfl, ?_⟩) ?_ ?_
        rotate_left
        · intro w'
          go_simp
          with_reducible rfl
        rotate_left
        · simp only [Act.put, List.setIfInBounds_toArray, List.set_cons_zero, List.set_cons_succ]
          rfl
        refine pure_ (i := 8) (N := some 159) (v := ?_) (a' := ?_) #[true, true, true, true, true, true, true, true, true, false, false, false, false, false, false, false, false] rfl rfl (by kernel_rfl) (fun _ _ _ h => h) (Or.inl ⟨by rfl, ?_⟩) ?_ ?_
        rotate_left
        · intro w'
          go_simp
          with_reducible rfl
        rotate_left
        · simp only [Act.put, List.setIfInBounds_toArray, List.set_cons_zero, List.set_cons_succ]
          rfl
        refine take_ (i := 9) (N := some 160) (v := ?_) (a' := ?_) #[true, true, true, true, true, true, true, true, true, true, false, false, false, false, false, false, false] rfl rfl (by kernel_rfl) (fun _ _ _ h => h) (Or.inl ⟨by rfl, ?_⟩) hHeld ?_ ?_
        rotate_left
        · rintro w' ⟨s0, s1, s2, s3, s4, s5, s6, s7, s8, s9, s10, s11, s12⟩
          go_simp
          with_reducible rfl
        rotate_left
        · simp only [Act.put, List.setIfInBounds_toArray, List.set_cons_zero, List.set_cons_succ]
          rfl
        refine pure_ (i := 10) (N := some 161) (v := ?_) (a' := ?_) #[true, true, true, true, true, true, true, true, true, true, true, false, false, false, false, false, false] rfl rfl (by kernel_rfl) (fun _ _ _ h => h) (Or.inl ⟨by rfl, ?_⟩) ?_ ?_
        rotate_left
        · intro w'
          go_simp
          with_reducible rfl
        rotate_left
        · simp only [Act.put, List.setIfInBounds_toArray, List.set_cons_zero, List.set_cons_succ]
          rfl
        refine pure_ (i := 11) (N := some 162) (v := ?_) (a' := ?_) #[true, true, true, true, true, true, true, true, true, true, true, true, false, false, false, false, false] rfl rfl (by kernel_rfl) (fun _ _ _ h => h) (Or.inl ⟨by rfl, ?_⟩) ?_ ?_
        rotate_left
        · intro w'
          go_simp
          with_reducible rfl
        rotate_left
        · simp only [Act.put, List.setIfInBounds_toArray, List.set_cons_zero, List.set_cons_succ]
          rfl
        refine pure_ (i := 12) (N := some 163) (v := ?_) (a' := ?_) #[true, true, true, true, true, true, true, true, true, true, true, true, true, false, false, false, false] rfl rfl (by kernel_rfl) (fun _ _ _ h => h) (Or.inl ⟨by rfl, ?_⟩) ?_ ?_
        rotate_left
        · intro w'
          go_simp
          with_reducible rfl
        rotate_left
        · simp only [Act.put, List.setIfInBounds_toArray, List.set_cons_zero, List.set_cons_succ]
          rfl
        refine take_ (i := 13) (N := some 164) (v := ?_) (a' := ?_) #[true, true, true, true, true, true, true, true, true, true, true, true, true, true, false, false, false] rfl rfl (by kernel_rfl) (fun _ _ _ h => h) (Or.inl ⟨by rfl, ?_⟩) hHeld ?_ ?_
        rotate_left
        · rintro w' ⟨s0, s1, s2, s3, s4, s5, s6, s7, s8, s9, s10, s11, s12⟩
          go_simp
          with_reducible rfl
        rotate_left
        · simp only [Act.put, List.setIfInBounds_toArray, List.set_cons_zero, List.set_cons_succ]
          rfl
        refine one_ (i := 14) (N := some 165) #[true, true, true, true, true, true, true, true, true, true, true, true, true, true, true, false, false] rfl rfl (by kernel_rfl) (by decide) (fun K hK => ?_)
        refine goes_ Try.func13 (by kernel_rfl) rfl #[.agg #[.string x.f1.f0, .int .i64 x.f1.f1.f0, .int .i64 x.f1.f1.f1, .string x.f1.f1.f2, .slice D5 x.f1.f1.f3.length e5', .slice D6 x.f1.f2.length e6'], .agg #[.string x.f1.f0, .int .i64 x.f1.f1.f0, .int .i64 x.f1.f1.f1, .string x.f1.f1.f2, .slice F4 x.f1.f1.f3.length g4, .slice F5 x.f1.f2.length g5]] (by rfl) rfl rfl (by simp only [List.map_toArray, List.map_cons, List.map_nil]; rfl) ?_
        refine (HSAME.out W ⟨HBo.out⟩).mono ?_
        rintro e w11 ⟨rfl, HB11a⟩
        have HB11 : Hid (Below wb.heap.size wb w11) := Lib.hid (HBo.out.trans (HB11a.out.mono HBo.out.size))
        refine ⟨_, rfl, ?_⟩
        refine hK.out _ _ ⟨pw_cell_below HB11a.out hHeld.1, pw_cell_below HB11a.out hHeld.2.1, pw_cell_below HB11a.out hHeld.2.2.1, pw_cell_below HB11a.out hHeld.2.2.2.1, pw_cell_below HB11a.out hHeld.2.2.2.2.1, pw_cell_below HB11a.out hHeld.2.2.2.2.2.1, pw_cell_below HB11a.out hHeld.2.2.2.2.2.2.1, pw_cell_below HB11a.out hHeld.2.2.2.2.2.2.2.1, pw_cell_below HB11a.out hHeld.2.2.2.2.2.2.2.2.1, pw_cell_below HB11a.out hHeld.2.2.2.2.2.2.2.2.2.1, pw_cell_below HB11a.out hHeld.2.2.2.2.2.2.2.2.2.2.1, pw_cell_below HB11a.out hHeld.2.2.2.2.2.2.2.2.2.2.2.1, pw_cell_below HB11a.out hHeld.2.2.2.2.2.2.2.2.2.2.2.2⟩ (fun hHeld => ?_)
        clear hK K
        refine norm_ (a' := ?_) ?_ ?_
        rotate_left
        · show Act.put _ (some 165) _ = _
          simp only [Act.put, List.setIfInBounds_toArray, List.set_cons_zero, List.set_cons_succ]
          rfl
        refine pure_ (i := 15) (N := some 166) (v := ?_) (a' := ?_) #[true, true, true, true, true, true, true, true, true, true, true, true, true, true, true, true, false] rfl rfl (by kernel_rfl) (fun _ _ _ h => h) (Or.inl ⟨by rfl, ?_⟩) ?_ ?_
        rotate_left
        · intro w'
          go_simp
          with_reducible rfl
        rotate_left
        · simp only [Act.put, List.setIfInBounds_toArray, List.set_cons_zero, List.set_cons_succ]
          rfl
        refine pure_ (i := 16) (N := some 167) (v := ?_) (a' := ?_) #[true, true, true, true, true, true, true, true, true, true, true, true, true, true, true, true, true] rfl rfl (by kernel_rfl) (fun _ _ _ h => h) (Or.inl ⟨by rfl, ?_⟩) ?_ ?_
        rotate_left
        · intro w'
          go_simp
          with_reducible rfl
        rotate_left
        · simp only [Act.put, List.setIfInBounds_toArray, List.set_cons_zero, List.set_cons_succ]
          rfl
        refine done_ (by kernel_rfl) ?_
        clear hHeld
        go_wp2_with (fail)
        go_roundw
        case rel => exact ⟨k + 1, lk, own9, c10, cap10, s10, r10, by omega, by go_num, Hdr, Lib.hid (HL10.out.upd (S := fun _ => False) (by decide) (by decide) (Upd.of_below' HB11.out (fun _ _ => rfl))), Lib.hid (HU8b.out.then (Upd.of_below' HB11.out (fun _ _ => rfl)))⟩
        case measure => simp [intOf]; omega
      · obtain rfl : k = m2 := by omega
        have h0 : lk = [] := by
          have := HLK.out
          rw [List.drop_of_length_le (by rw [← Hm2.out]; exact Nat.le_refl _)] at this
          exact List.map_eq_nil_iff.1 this
        subst h0
        go_wp2_with (fail)
        go_meet
        exact ⟨ownr, c9, cap9, s9, r9, HL, HU⟩
  case rest =>
  obtain ⟨own9, c9, cap9, s9, r9, HL9, HU89⟩ := hcut
  have HTN := Lib.hid (take12_none own9 wc g c9 cap9 s9 r9 0 false HL9.out)
  have HT9 := Lib.hid (HT8.out.then HU89.out)
  go_wp2_with (first
    | (go_at_call 12; refine HTN.out.mono ?_; rintro e w10 ⟨rfl, HB10⟩))
  go_ret
  exact ⟨rfl, ((HT9.out.below (Nat.le_refl _) (fun _ _ h => by cases h)).trans (HB10.out.mono HT9.out.size)).alloc (Nat.le_trans HT9.out.size HB10.out.size) _⟩
end Go.Proofs.Ytcbfddhdaamimaa.PLaneFifo
