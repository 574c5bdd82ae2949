/- plays: Hand; all kinds. -/
import Derived.Test.YtcbaiplamaopeaaEQ
namespace Go.Proofs.Ytcbaiplamaopeaa.PPostShots
open Go.RowKit Go.Conc Go.Proofs.YtcbaiplamaopeaaW.PrintWords Go.Proofs.YtcbaiplamaopeaaW.PrintLast Go.Proofs.Ytcbaiplamaopeaa.PPost
set_option linter.unusedVariables false
set_option linter.unusedSimpArgs false

theorem PB_hand {R : RA} (h : PB R) (id task : Int) (x : S40) (hx : partsP x ≤ 10000) : PB (R.hand id task x).2 := by
  unfold RA.hand
  split
  · exact h
  · split
    · exact h
    · split
      · exact h
      · intro y hy
        rcases List.mem_append.1 hy with hy | hy
        · exact h y hy
        · rw [List.mem_singleton] at hy; rw [hy]; exact hx
set_option maxRecDepth 100000 in
set_option maxHeartbeats 16000000 in
theorem plays20_hand (own : Nat → Nat) (w : World) (g gr tg tr : Nat) (S : PS) (R : RA) (bm c bw bp nm s r : Nat) (pps : List PP) (pbuf : List (Nat × PP)) (A : Option Addr) (cr : Nat) (rows : List SC) (rps : List PP) (hP : PostAt own w g tg S bm c bw bp nm s r pps pbuf) (hR : RefAt own w gr tr R A cr rows rps) (hRR : RR S R) (hPB : PB R) (h0 : tg ≠ 0) (htr : tg < tr) (hnm : nm + 1 < maxLen) (o : S57) (last : Int) (A6 : Option Addr) (c6 : Nat) (A7 : Option Addr) (c7 : Nat) (A8 : Option Addr) (c8 : Nat) (hC6 : StC k103 own w A6 o.f5.f0.f1.length o.f5.f0.f1) (hl6 : o.f5.f0.f1.length ≤ c6) (hC7 : StC (Kd.slice 83 k83) own w A7 o.f5.f1.length o.f5.f1) (hl7 : o.f5.f1.length ≤ c7) (hC8 : StC k83 own w A8 o.f5.f2.length o.f5.f2) (hl8 : o.f5.f2.length ≤ c8) (hp : partsP o.f5 ≤ 10000) (hwf : wfI o.f3) : Calls Try.prog 20 #[.pointer (some ⟨g, 0, none⟩), .pointer (some ⟨gr, 0, none⟩), .agg #[.int .i64 2, .bool o.f1, .bool o.f2, .int .i64 o.f3, .int .i64 o.f4, .int .i64 o.f5.f0.f0, .slice A6 o.f5.f0.f1.length c6, .slice A7 o.f5.f1.length c7, .slice A8 o.f5.f2.length c8, .bool o.f6], .int .i64 last] w fun e w' => ∃ last', e = .returned (.tuple #[.int .i64 last', .bool true]) ∧ PlayTo own w g gr tg tr nm w' := by
  obtain ⟨own1, hown1⟩ : ∃ own1 : Nat → Nat, own1 = fresh own w 0 := ⟨_, rfl⟩
  have HX1 : Hid ((w.alloc (.cells #[.int .i64 2, .bool o.f1, .bool o.f2, .int .i64 o.f3, .int .i64 o.f4, .int .i64 o.f5.f0.f0, .slice A6 o.f5.f0.f1.length c6, .slice A7 o.f5.f1.length c7, .slice A8 o.f5.f2.length c8, .bool o.f6] 57)).heap[w.heap.size]? = some (.cells #[.int .i64 2, .bool o.f1, .bool o.f2, .int .i64 o.f3, .int .i64 o.f4, .int .i64 o.f5.f0.f0, .slice A6 o.f5.f0.f1.length c6, .slice A7 o.f5.f1.length c7, .slice A8 o.f5.f2.length c8, .bool o.f6] 57 (0, 0))) := Lib.hid (blk_new w _)
  have HB1 : Hid (Below w.heap.size w (w.alloc (.cells #[.int .i64 2, .bool o.f1, .bool o.f2, .int .i64 o.f3, .int .i64 o.f4, .int .i64 o.f5.f0.f0, .slice A6 o.f5.f0.f1.length c6, .slice A7 o.f5.f1.length c7, .slice A8 o.f5.f2.length c8, .bool o.f6] 57))) := Lib.hid ((Below.refl _ _).alloc (Nat.le_refl _) _)
  have hu1 : Upd (fun _ => False) own w own1 (w.alloc (.cells #[.int .i64 2, .bool o.f1, .bool o.f2, .int .i64 o.f3, .int .i64 o.f4, .int .i64 o.f5.f0.f0, .slice A6 o.f5.f0.f1.length c6, .slice A7 o.f5.f1.length c7, .slice A8 o.f5.f2.length c8, .bool o.f6] 57)) := by rw [hown1]; exact Upd.alloc _ 0
  have HP1 := Lib.hid (hP.upd (T := fun _ => False) (fun e => e) (fun e => e) hu1)
  have HR1 := Lib.hid (hR.upd (T := fun _ => False) (fun e => e) (fun _ _ _ e => e) hu1)
  have HU1 := Lib.hid hu1
  have HO1 : Hid (own1 w.heap.size = 0) := Lib.hid (by rw [hown1]; exact fresh_new (Nat.le_refl _))
  have HNUM := Lib.hid (number21 ⟨2, o.f1, o.f2, o.f3, o.f4, o.f5, o.f6⟩ last A6 c6 A7 c7 A8 c8 (w.alloc (.cells #[.int .i64 2, .bool o.f1, .bool o.f2, .int .i64 o.f3, .int .i64 o.f4, .int .i64 o.f5.f0.f0, .slice A6 o.f5.f0.f1.length c6, .slice A7 o.f5.f1.length c7, .slice A8 o.f5.f2.length c8, .bool o.f6] 57)) (Kd.C_below hC6.now HB1.out) hl6 (Kd.C_below hC7.now HB1.out) hl7 (Kd.C_below hC8.now HB1.out) hl8)
  have HWF := Lib.hid (numOf_wf (o := ⟨2, o.f1, o.f2, o.f3, o.f4, o.f5, o.f6⟩) (last := last) hwf)
  have HRR := Lib.hid hRR
  have HPB := Lib.hid hPB
  have H0 := Lib.hid h0
  have HTR := Lib.hid htr
  have HNM := Lib.hid hnm
  have HC6 := Lib.hid (hC6.upd (S := fun _ => False) (fun e => e) hu1)
  have HC7 := Lib.hid (hC7.upd (S := fun _ => False) (fun e => e) hu1)
  have HC8 := Lib.hid (hC8.upd (S := fun _ => False) (fun e => e) hu1)
  have HON : Hid (∀ k, w.heap.size ≤ k → own1 k = 0) := Lib.hid (fun k hk => by rw [hown1]; exact fresh_new hk)
  have Hp := Lib.hid hp
  have Hl6 := Lib.hid hl6
  clear hP hR hRR hPB h0 htr hnm hC6 hl6 hC7 hl7 hC8 hl8 hp hwf hown1 hu1
  go_enter Try.func20, Try.ntmps20
  go_upto_region 1 with (fail)
  generalize w.alloc (.cells #[.int .i64 2, .bool o.f1, .bool o.f2, .int .i64 o.f3, .int .i64 o.f4, .int .i64 o.f5.f0.f0, .slice A6 o.f5.f0.f1.length c6, .slice A7 o.f5.f1.length c7, .slice A8 o.f5.f2.length c8, .bool o.f6] 57) = w1 at *
  generalize hbo : w.heap.size = bo at HX1 HO1 ⊢
  clear hbo
  have a0 : w1.cell? ⟨bo, 0, none⟩ = some (.int .i64 2) := blk_at HX1.out 0 rfl
  have a1 : w1.cell? ⟨bo, 1, none⟩ = some (.bool o.f1) := blk_at HX1.out 1 rfl
  have a2 : w1.cell? ⟨bo, 2, none⟩ = some (.bool o.f2) := blk_at HX1.out 2 rfl
  have a3 : w1.cell? ⟨bo, 3, none⟩ = some (.int .i64 o.f3) := blk_at HX1.out 3 rfl
  have a4 : w1.cell? ⟨bo, 4, none⟩ = some (.int .i64 o.f4) := blk_at HX1.out 4 rfl
  have a5 : w1.cell? ⟨bo, 5, none⟩ = some (.int .i64 o.f5.f0.f0) := blk_at HX1.out 5 rfl
  have a6 : w1.cell? ⟨bo, 6, none⟩ = some (.slice A6 o.f5.f0.f1.length c6) := blk_at HX1.out 6 rfl
  have a7 : w1.cell? ⟨bo, 7, none⟩ = some (.slice A7 o.f5.f1.length c7) := blk_at HX1.out 7 rfl
  have a8 : w1.cell? ⟨bo, 8, none⟩ = some (.slice A8 o.f5.f2.length c8) := blk_at HX1.out 8 rfl
  have a9 : w1.cell? ⟨bo, 9, none⟩ = some (.bool o.f6) := blk_at HX1.out 9 rfl
  go_upto_region 2 with (go_at_call 21; refine HNUM.out.mono ?_; rintro e w2 ⟨rfl, hb⟩)
  clear a0 a1 a2 a3 a4 a5 a6 a7 a8 a9 HNUM
  generalize numOf ⟨2, o.f1, o.f2, o.f3, o.f4, o.f5, o.f6⟩ last = id at *
  have hu2 : Upd (fun _ => False) own1 w1 own1 w2 := Upd.of_below' hb.out (fun _ _ => rfl)
  have HP2 := Lib.hid (HP1.out.upd (T := fun _ => False) (fun e => e) (fun e => e) hu2)
  have HR2 := Lib.hid (HR1.out.upd (T := fun _ => False) (fun e => e) (fun _ _ _ e => e) hu2)
  have HU2 : Hid (Upd (fun _ => False) own w own1 w2) := Lib.hid (HU1.out.then hu2)
  have HX2 := Lib.hid (blk_below HX1.out hb.out)
  replace HC6 := Lib.hid (HC6.out.upd (S := fun _ => False) (fun e => e) hu2)
  replace HC7 := Lib.hid (HC7.out.upd (S := fun _ => False) (fun e => e) hu2)
  replace HC8 := Lib.hid (HC8.out.upd (S := fun _ => False) (fun e => e) hu2)
  have HB2 : Hid (Below w.heap.size w w2) := Lib.hid (HB1.out.trans (hb.out.mono HB1.out.size))
  have a0 : w2.cell? ⟨bo, 0, none⟩ = some (.int .i64 2) := blk_at HX2.out 0 rfl
  have a1 : w2.cell? ⟨bo, 1, none⟩ = some (.bool o.f1) := blk_at HX2.out 1 rfl
  have a2 : w2.cell? ⟨bo, 2, none⟩ = some (.bool o.f2) := blk_at HX2.out 2 rfl
  have a3 : w2.cell? ⟨bo, 3, none⟩ = some (.int .i64 o.f3) := blk_at HX2.out 3 rfl
  have a4 : w2.cell? ⟨bo, 4, none⟩ = some (.int .i64 o.f4) := blk_at HX2.out 4 rfl
  have a5 : w2.cell? ⟨bo, 5, none⟩ = some (.int .i64 o.f5.f0.f0) := blk_at HX2.out 5 rfl
  have a6 : w2.cell? ⟨bo, 6, none⟩ = some (.slice A6 o.f5.f0.f1.length c6) := blk_at HX2.out 6 rfl
  have a7 : w2.cell? ⟨bo, 7, none⟩ = some (.slice A7 o.f5.f1.length c7) := blk_at HX2.out 7 rfl
  have a8 : w2.cell? ⟨bo, 8, none⟩ = some (.slice A8 o.f5.f2.length c8) := blk_at HX2.out 8 rfl
  have a9 : w2.cell? ⟨bo, 9, none⟩ = some (.bool o.f6) := blk_at HX2.out 9 rfl
  clear hb hu2 HP1 HR1 HU1 HX1 HB1
  have hp5 : partsP o.f5 ≤ 100000 := Nat.le_trans Hp.out (by decide)
  have HPT := part35 o.f5 A6 c6 A7 c7 A8 c8 w2 HC6.out.now HC7.out.now HC8.out.now hp5
  have Hp5 := Lib.hid hp5
  clear hp5
  go_upto_region 11 with (go_at_call 35; refine HPT.mono ?_; rintro e w3 ⟨v1, v2, v3, rfl, hv1, hv2, hv3, hb⟩
                          obtain ⟨Aa, ca, rfl⟩ := Kd.R_slice hv1.out
                          obtain ⟨Ab, cb, rfl⟩ := Kd.R_slice hv2.out
                          obtain ⟨Ac, cc, rfl⟩ := Kd.R_slice hv3.out)
  clear a0 a1 a2 a3 a4 a5 a6 a7 a8 a9 HPT
  have hB3 : Below w2.heap.size w2 (w3.alloc (.cells #[.int .i64 o.f5.f0.f0, .slice Aa o.f5.f0.f1.length ca, .slice Ab o.f5.f1.length cb, .slice Ac o.f5.f2.length cc] 40)) := hb.out.alloc hb.out.size _
  have hu3 : Upd (fun _ => False) own1 w2 own1 (w3.alloc (.cells #[.int .i64 o.f5.f0.f0, .slice Aa o.f5.f0.f1.length ca, .slice Ab o.f5.f1.length cb, .slice Ac o.f5.f2.length cc] 40)) := Upd.of_below' hB3 (fun _ _ => rfl)
  have hnew : ∀ k, w2.heap.size ≤ k → own1 k = 0 := fun k hk => HON.out k (Nat.le_trans HB2.out.size hk)
  have HSX : Hid (St k40 own1 (w3.alloc (.cells #[.int .i64 o.f5.f0.f0, .slice Aa o.f5.f0.f1.length ca, .slice Ab o.f5.f1.length cb, .slice Ac o.f5.f2.length cc] 40)) o.f5 [.int .i64 o.f5.f0.f0, .slice Aa o.f5.f0.f1.length ca, .slice Ab o.f5.f1.length cb, .slice Ac o.f5.f2.length cc]) := Lib.hid (St.made (base := w2.heap.size) (k40_mkM _ _ _ o.f5 (Kd.R_mono (Kd.R_bound (Kd.R_alloc hv1.out (.cells #[.int .i64 o.f5.f0.f0, .slice Aa o.f5.f0.f1.length ca, .slice Ab o.f5.f1.length cb, .slice Ac o.f5.f2.length cc] 40))) (fun k hk => hnew k hk.2.1)) (Kd.R_mono (Kd.R_bound (Kd.R_alloc hv2.out (.cells #[.int .i64 o.f5.f0.f0, .slice Aa o.f5.f0.f1.length ca, .slice Ab o.f5.f1.length cb, .slice Ac o.f5.f2.length cc] 40))) (fun k hk => hnew k hk.2.1)) (Kd.R_mono (Kd.R_bound (Kd.R_alloc hv3.out (.cells #[.int .i64 o.f5.f0.f0, .slice Aa o.f5.f0.f1.length ca, .slice Ab o.f5.f1.length cb, .slice Ac o.f5.f2.length cc] 40))) (fun k hk => hnew k hk.2.1))))
  have Hca : Hid (o.f5.f0.f1.length ≤ ca) := Lib.hid (Kd.R_reads' hv1.out).2.1
  have HP3 := Lib.hid (HP2.out.upd (T := fun _ => False) (fun e => e) (fun e => e) hu3)
  have HR3 := Lib.hid (HR2.out.upd (T := fun _ => False) (fun e => e) (fun _ _ _ e => e) hu3)
  have HU3 : Hid (Upd (fun _ => False) own w own1 (w3.alloc (.cells #[.int .i64 o.f5.f0.f0, .slice Aa o.f5.f0.f1.length ca, .slice Ab o.f5.f1.length cb, .slice Ac o.f5.f2.length cc] 40))) := Lib.hid (HU2.out.then hu3)
  have HX3 := Lib.hid (blk_below HX2.out hB3)
  have HX15 : Hid ((w3.alloc (.cells #[.int .i64 o.f5.f0.f0, .slice Aa o.f5.f0.f1.length ca, .slice Ab o.f5.f1.length cb, .slice Ac o.f5.f2.length cc] 40)).heap[w3.heap.size]? = some (.cells #[.int .i64 o.f5.f0.f0, .slice Aa o.f5.f0.f1.length ca, .slice Ab o.f5.f1.length cb, .slice Ac o.f5.f2.length cc] 40 (0, 0))) := Lib.hid (blk_new _ _)
  have HO15 : Hid (own1 w3.heap.size = 0) := Lib.hid (hnew _ hb.out.size)
  replace HC6 := Lib.hid (HC6.out.upd (S := fun _ => False) (fun e => e) hu3)
  replace HC7 := Lib.hid (HC7.out.upd (S := fun _ => False) (fun e => e) hu3)
  replace HC8 := Lib.hid (HC8.out.upd (S := fun _ => False) (fun e => e) hu3)
  clear hv1 hv2 hv3 hb hB3 hu3 hnew HP2 HR2 HU2 HX2 HB2
  generalize w3.alloc (.cells #[.int .i64 o.f5.f0.f0, .slice Aa o.f5.f0.f1.length ca, .slice Ab o.f5.f1.length cb, .slice Ac o.f5.f2.length cc] 40) = W3 at *
  generalize w3.heap.size = b15 at *
  have d0 : W3.cell? ⟨bo, 0, none⟩ = some (.int .i64 2) := blk_at HX3.out 0 rfl
  have d1 : W3.cell? ⟨bo, 1, none⟩ = some (.bool o.f1) := blk_at HX3.out 1 rfl
  have d2 : W3.cell? ⟨bo, 2, none⟩ = some (.bool o.f2) := blk_at HX3.out 2 rfl
  have d3 : W3.cell? ⟨bo, 3, none⟩ = some (.int .i64 o.f3) := blk_at HX3.out 3 rfl
  have d4 : W3.cell? ⟨bo, 4, none⟩ = some (.int .i64 o.f4) := blk_at HX3.out 4 rfl
  have d5 : W3.cell? ⟨bo, 5, none⟩ = some (.int .i64 o.f5.f0.f0) := blk_at HX3.out 5 rfl
  have d6 : W3.cell? ⟨bo, 6, none⟩ = some (.slice A6 o.f5.f0.f1.length c6) := blk_at HX3.out 6 rfl
  have d7 : W3.cell? ⟨bo, 7, none⟩ = some (.slice A7 o.f5.f1.length c7) := blk_at HX3.out 7 rfl
  have d8 : W3.cell? ⟨bo, 8, none⟩ = some (.slice A8 o.f5.f2.length c8) := blk_at HX3.out 8 rfl
  have d9 : W3.cell? ⟨bo, 9, none⟩ = some (.bool o.f6) := blk_at HX3.out 9 rfl
  have HCA := hand10 own1 W3 g tg S bm c bw bp nm s r pps pbuf HP3.out H0.out id o.f4 o.f5 A6 c6 A7 c7 A8 c8 HC6.out.now HC7.out.now HC8.out.now Hp5.out
  have HAB := HRR.out.hand HP3.out.ok HR3.out.ok id o.f4 o.f5
  have HRR' := Lib.hid HAB.2
  rw [HAB.1] at HCA
  have HPB' : Hid (PB (R.hand id o.f4 o.f5).2) := Lib.hid (PB_hand HPB.out id o.f4 o.f5 Hp.out)
  have HRM : Hid (inTs R.ts o.f4 = false → 0 ≤ o.f4 → o.f4 < (R.n : Int) → 0 ≤ R.now → R.ps.length < 12) := Lib.hid (fun e1 e2 e3 e4 => HRR.out.room HP3.out.ok HR3.out.ok e4 o.f4 e1 e2 e3)
  clear HAB
  obtain ⟨x1, hx1⟩ : ∃ x, x = (R.hand id o.f4 o.f5).1 := ⟨_, rfl⟩
  rw [← hx1] at HCA
  have Hx1 := Lib.hid hx1
  clear hx1
  have k1 : (x1 == x1) = true := beq_self_eq_true _
  go_upto_region 12 with (go_at_call 10; refine HCA.mono ?_; rintro e w4 ⟨rfl, own4, bm3, c3, bw3, bp3, nm3, s3, r3, pps3, pbuf3, hP4, hU4, hn4⟩)
  clear d0 d1 d2 d3 d4 d5 d6 d7 d8 d9 HCA
  have HP4 := Lib.hid hP4
  have HR4 := Lib.hid (HR3.out.upd (T := (· = tg)) (by have := H0.out; omega) (fun t_ h1 h2 h3 => by have := HTR.out; omega) hU4)
  have HU4 : Hid (Upd (fun t_ => t_ = tg ∨ Tg tr t_) own w own4 w4) := Lib.hid ((HU3.out.mono (fun _ h => h.elim)).then (hU4.mono (fun _ h => .inl h)))
  have HX4 := Lib.hid (hU4.blk HX3.out (by rw [HO1.out]; have := H0.out; omega))
  have HO4 : Hid (own4 bo = 0) := Lib.hid ((hU4.same bo (blk_lt HX3.out) (by rw [HO1.out]; have := H0.out; omega)).trans HO1.out)
  have HX16 := Lib.hid (hU4.blk HX15.out (by rw [HO15.out]; have := H0.out; omega))
  have HO16 : Hid (own4 b15 = 0) := Lib.hid ((hU4.same b15 (blk_lt HX15.out) (by rw [HO15.out]; have := H0.out; omega)).trans HO15.out)
  have Hn3 : Hid (nm3 ≤ nm + 2) := Lib.hid (by omega)
  have HSY := Lib.hid (HSX.out.upd (S := (· = tg)) (by have := H0.out; omega) hU4)
  replace HC6 := Lib.hid (HC6.out.upd (S := (· = tg)) (by have := H0.out; omega) hU4)
  replace HC7 := Lib.hid (HC7.out.upd (S := (· = tg)) (by have := H0.out; omega) hU4)
  replace HC8 := Lib.hid (HC8.out.upd (S := (· = tg)) (by have := H0.out; omega) hU4)
  clear hP4 hU4 hn4 HX3 HX15 HSX HP3 HR3 HU3
  have d0 : w4.cell? ⟨bo, 0, none⟩ = some (.int .i64 2) := blk_at HX4.out 0 rfl
  have d1 : w4.cell? ⟨bo, 1, none⟩ = some (.bool o.f1) := blk_at HX4.out 1 rfl
  have d2 : w4.cell? ⟨bo, 2, none⟩ = some (.bool o.f2) := blk_at HX4.out 2 rfl
  have d3 : w4.cell? ⟨bo, 3, none⟩ = some (.int .i64 o.f3) := blk_at HX4.out 3 rfl
  have d4 : w4.cell? ⟨bo, 4, none⟩ = some (.int .i64 o.f4) := blk_at HX4.out 4 rfl
  have d5 : w4.cell? ⟨bo, 5, none⟩ = some (.int .i64 o.f5.f0.f0) := blk_at HX4.out 5 rfl
  have d6 : w4.cell? ⟨bo, 6, none⟩ = some (.slice A6 o.f5.f0.f1.length c6) := blk_at HX4.out 6 rfl
  have d7 : w4.cell? ⟨bo, 7, none⟩ = some (.slice A7 o.f5.f1.length c7) := blk_at HX4.out 7 rfl
  have d8 : w4.cell? ⟨bo, 8, none⟩ = some (.slice A8 o.f5.f2.length c8) := blk_at HX4.out 8 rfl
  have d9 : w4.cell? ⟨bo, 9, none⟩ = some (.bool o.f6) := blk_at HX4.out 9 rfl
  have p0 : w4.cell? ⟨b15, 0, none⟩ = some (.int .i64 o.f5.f0.f0) := blk_at HX16.out 0 rfl
  have p1 : w4.cell? ⟨b15, 1, none⟩ = some (.slice Aa o.f5.f0.f1.length ca) := blk_at HX16.out 1 rfl
  have p2 : w4.cell? ⟨b15, 2, none⟩ = some (.slice Ab o.f5.f1.length cb) := blk_at HX16.out 2 rfl
  have p3 : w4.cell? ⟨b15, 3, none⟩ = some (.slice Ac o.f5.f2.length cc) := blk_at HX16.out 3 rfl
  have hpc := part_C HSY.out.now
  have HRA := hand36 own4 w4 gr tr R A cr rows rps HR4.out id o.f4 o.f5 Aa ca Ab cb Ac cc (fun e1 e2 e3 e4 => HRM.out e1 e2 e3 e4) hpc.1 hpc.2.1 hpc.2.2 Hp5.out
  rw [← Hx1.out] at HRA
  clear hpc
  go_wp2_with (first
                  | (go_at_call 36; refine HRA.mono ?_; rintro e w5 ⟨rfl, own5, A5, cr5, rows5, rps5, hR5, hU5⟩
                     have hnt : ¬ Tg tr 0 := by have := HTR.out; unfold Tg; omega
                     have HP5 := Lib.hid (HP4.out.upd (T := Tg tr) hnt (by have := HTR.out; unfold Tg; omega) hU5)
                     have HR5 := Lib.hid hR5
                     have HU5 : Hid (Upd (fun t_ => t_ = tg ∨ Tg tr t_) own w own5 w5) := Lib.hid (HU4.out.then (hU5.mono (fun _ h => .inr h)))
                     have HX5 := Lib.hid (hU5.blk HX4.out (by rw [HO4.out]; exact hnt))
                     have HX17 := Lib.hid (hU5.blk HX16.out (by rw [HO16.out]; exact hnt))
                     have hpc := part_C (HSY.out.upd (S := Tg tr) hnt hU5).now
                     have HSI := same13' o.f5 A6 c6 A7 c7 A8 c8 Aa ca Ab cb Ac cc w5 Hp5.out (HC6.out.upd (S := Tg tr) hnt hU5).now (HC7.out.upd (S := Tg tr) hnt hU5).now (HC8.out.upd (S := Tg tr) hnt hU5).now hpc.1 hpc.2.1 hpc.2.2 Hl6.out Hca.out
                     have f5 : w5.cell? ⟨bo, 5, none⟩ = some (.int .i64 o.f5.f0.f0) := blk_at HX5.out 5 rfl
                     have f6 : w5.cell? ⟨bo, 6, none⟩ = some (.slice A6 o.f5.f0.f1.length c6) := blk_at HX5.out 6 rfl
                     have f7 : w5.cell? ⟨bo, 7, none⟩ = some (.slice A7 o.f5.f1.length c7) := blk_at HX5.out 7 rfl
                     have f8 : w5.cell? ⟨bo, 8, none⟩ = some (.slice A8 o.f5.f2.length c8) := blk_at HX5.out 8 rfl
                     have q0 : w5.cell? ⟨b15, 0, none⟩ = some (.int .i64 o.f5.f0.f0) := blk_at HX17.out 0 rfl
                     have q1 : w5.cell? ⟨b15, 1, none⟩ = some (.slice Aa o.f5.f0.f1.length ca) := blk_at HX17.out 1 rfl
                     have q2 : w5.cell? ⟨b15, 2, none⟩ = some (.slice Ab o.f5.f1.length cb) := blk_at HX17.out 2 rfl
                     have q3 : w5.cell? ⟨b15, 3, none⟩ = some (.slice Ac o.f5.f2.length cc) := blk_at HX17.out 3 rfl
                     clear hnt hR5 hU5 hpc)
                  | (go_at_call 13; refine HSI.mono ?_; rintro e w6 ⟨rfl, hb⟩
                     have hu6 : Upd (fun _ => False) own5 w5 own5 w6 := Upd.of_below' hb.out (fun _ _ => rfl)
                     have HP6 := Lib.hid (HP5.out.upd (T := fun _ => False) (fun e => e) (fun e => e) hu6)
                     have HR6 := Lib.hid (HR5.out.upd (T := fun _ => False) (fun e => e) (fun _ _ _ e => e) hu6)
                     have HU6 : Hid (Upd (fun t_ => t_ = tg ∨ Tg tr t_) own w own5 w6) := Lib.hid (HU5.out.then (hu6.mono (fun _ h => h.elim)))
                     clear hu6 hb))
  go_ret2
  exact ⟨_, rfl, own5, _, _, bm3, c3, bw3, bp3, nm3, s3, r3, pps3, pbuf3, _, _, _, _, HP6, HR6, HRR', HPB', HU6, Hn3.out⟩
theorem plays20 (own : Nat → Nat) (w : World) (g gr tg tr : Nat) (S : PS) (R : RA) (bm c bw bp nm s r : Nat) (pps : List PP) (pbuf : List (Nat × PP)) (A : Option Addr) (cr : Nat) (rows : List SC) (rps : List PP) (hP : PostAt own w g tg S bm c bw bp nm s r pps pbuf) (hR : RefAt own w gr tr R A cr rows rps) (hRR : RR S R) (hPB : PB R) (h0 : tg ≠ 0) (htr : tg < tr) (hnm : nm + 1 < maxLen) (o : S57) (last : Int) (A6 : Option Addr) (c6 : Nat) (A7 : Option Addr) (c7 : Nat) (A8 : Option Addr) (c8 : Nat) (hC6 : StC k103 own w A6 o.f5.f0.f1.length o.f5.f0.f1) (hl6 : o.f5.f0.f1.length ≤ c6) (hC7 : StC (Kd.slice 83 k83) own w A7 o.f5.f1.length o.f5.f1) (hl7 : o.f5.f1.length ≤ c7) (hC8 : StC k83 own w A8 o.f5.f2.length o.f5.f2) (hl8 : o.f5.f2.length ≤ c8) (hp : partsP o.f5 ≤ 10000) (hwf : wfI o.f3) : Calls Try.prog 20 #[.pointer (some ⟨g, 0, none⟩), .pointer (some ⟨gr, 0, none⟩), .agg #[.int .i64 o.f0, .bool o.f1, .bool o.f2, .int .i64 o.f3, .int .i64 o.f4, .int .i64 o.f5.f0.f0, .slice A6 o.f5.f0.f1.length c6, .slice A7 o.f5.f1.length c7, .slice A8 o.f5.f2.length c8, .bool o.f6], .int .i64 last] w fun e w' => ∃ last', e = .returned (.tuple #[.int .i64 last', .bool true]) ∧ PlayTo own w g gr tg tr nm w' := by
  by_cases h1 : o.f0 = 1
  · rw [h1]; exact plays20_trig own w g gr tg tr S R bm c bw bp nm s r pps pbuf A cr rows rps hP hR hRR hPB h0 htr hnm o last A6 c6 A7 c7 A8 c8 hC6 hl6 hC7 hl7 hC8 hl8 hp hwf
  by_cases h2 : o.f0 = 2
  · rw [h2]; exact plays20_hand own w g gr tg tr S R bm c bw bp nm s r pps pbuf A cr rows rps hP hR hRR hPB h0 htr hnm o last A6 c6 A7 c7 A8 c8 hC6 hl6 hC7 hl7 hC8 hl8 hp hwf
  by_cases h3 : o.f0 = 3
  · rw [h3]; exact plays20_pick own w g gr tg tr S R bm c bw bp nm s r pps pbuf A cr rows rps hP hR hRR hPB h0 htr hnm o last A6 c6 A7 c7 A8 c8 hC6 hl6 hC7 hl7 hC8 hl8 hp hwf
  by_cases h4 : o.f0 = 4
  · rw [h4]; exact plays20_abort own w g gr tg tr S R bm c bw bp nm s r pps pbuf A cr rows rps hP hR hRR hPB h0 htr hnm o last A6 c6 A7 c7 A8 c8 hC6 hl6 hC7 hl7 hC8 hl8 hp hwf
  by_cases h5 : o.f0 = 5
  · rw [h5]; exact plays20_settle own w g gr tg tr S R bm c bw bp nm s r pps pbuf A cr rows rps hP hR hRR hPB h0 htr hnm o last A6 c6 A7 c7 A8 c8 hC6 hl6 hC7 hl7 hC8 hl8 hp hwf
  by_cases h6 : o.f0 = 6
  · rw [h6]; exact plays20_status own w g gr tg tr S R bm c bw bp nm s r pps pbuf A cr rows rps hP hR hRR hPB h0 htr hnm o last A6 c6 A7 c7 A8 c8 hC6 hl6 hC7 hl7 hC8 hl8 hp hwf
  by_cases h7 : o.f0 = 7
  · rw [h7]; exact plays20_open own w g gr tg tr S R bm c bw bp nm s r pps pbuf A cr rows rps hP hR hRR hPB h0 htr hnm o last A6 c6 A7 c7 A8 c8 hC6 hl6 hC7 hl7 hC8 hl8 hp hwf
  exact plays20_none own w g gr tg tr S R bm c bw bp nm s r pps pbuf A cr rows rps hP hR hRR hPB h0 htr hnm o last A6 c6 A7 c7 A8 c8 hC6 hl6 hC7 hl7 hC8 hl8 hp hwf (beq_false_of_ne h1) (beq_false_of_ne h2) (beq_false_of_ne h3) (beq_false_of_ne h4) (beq_false_of_ne h5) (beq_false_of_ne h6) (beq_false_of_ne h7)
end Go.Proofs.Ytcbaiplamaopeaa.PPostShots
