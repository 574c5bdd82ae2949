/- plays: Pick. -/
import Derived.Test.YtcbaiplamaopeaaEP
namespace Go.Proofs.Ytcbaiplamaopeaa.PPostShots
open Go.RowKit Go.Conc Go.Proofs.YtcbaiplamaopeaaW.PrintWords Go.Proofs.YtcbaiplamaopeaaW.PrintLast Go.Proofs.Ytcbaiplamaopeaa.PPost
set_option linter.unusedVariables false
set_option linter.unusedSimpArgs false

set_option maxRecDepth 100000 in
set_option maxHeartbeats 16000000 in
theorem plays20_pick_a (own : Nat → Nat) (w : World) (g gr tg tr : Nat) (S : PS) (R : RA) (bm c bw bp nm s r : Nat) (pps : List PP) (pbuf : List (Nat × PP)) (A : Option Addr) (cr : Nat) (rows : List SC) (rps : List PP) (hP : PostAt own w g tg S bm c bw bp nm s r pps pbuf) (hR : RefAt own w gr tr R A cr rows rps) (hRR : RR S R) (hPB : PB R) (h0 : tg ≠ 0) (htr : tg < tr) (hnm : nm + 1 < maxLen) (o : S57) (last : Int) (A6 : Option Addr) (c6 : Nat) (A7 : Option Addr) (c7 : Nat) (A8 : Option Addr) (c8 : Nat) (hC6 : StC k103 own w A6 o.f5.f0.f1.length o.f5.f0.f1) (hl6 : o.f5.f0.f1.length ≤ c6) (hC7 : StC (Kd.slice 83 k83) own w A7 o.f5.f1.length o.f5.f1) (hl7 : o.f5.f1.length ≤ c7) (hC8 : StC k83 own w A8 o.f5.f2.length o.f5.f2) (hl8 : o.f5.f2.length ≤ c8) (hp : partsP o.f5 ≤ 10000) (hwf : wfI o.f3) (hbuf : S.buf = []) : Calls Try.prog 20 #[.pointer (some ⟨g, 0, none⟩), .pointer (some ⟨gr, 0, none⟩), .agg #[.int .i64 3, .bool o.f1, .bool o.f2, .int .i64 o.f3, .int .i64 o.f4, .int .i64 o.f5.f0.f0, .slice A6 o.f5.f0.f1.length c6, .slice A7 o.f5.f1.length c7, .slice A8 o.f5.f2.length c8, .bool o.f6], .int .i64 last] w fun e w' => ∃ last', e = .returned (.tuple #[.int .i64 last', .bool true]) ∧ PlayTo own w g gr tg tr nm w' := by
  obtain ⟨own1, hown1⟩ : ∃ own1 : Nat → Nat, own1 = fresh own w 0 := ⟨_, rfl⟩
  have HX1 : Hid ((w.alloc (.cells #[.int .i64 3, .bool o.f1, .bool o.f2, .int .i64 o.f3, .int .i64 o.f4, .int .i64 o.f5.f0.f0, .slice A6 o.f5.f0.f1.length c6, .slice A7 o.f5.f1.length c7, .slice A8 o.f5.f2.length c8, .bool o.f6] 57)).heap[w.heap.size]? = some (.cells #[.int .i64 3, .bool o.f1, .bool o.f2, .int .i64 o.f3, .int .i64 o.f4, .int .i64 o.f5.f0.f0, .slice A6 o.f5.f0.f1.length c6, .slice A7 o.f5.f1.length c7, .slice A8 o.f5.f2.length c8, .bool o.f6] 57 (0, 0))) := Lib.hid (blk_new w _)
  have HB1 : Hid (Below w.heap.size w (w.alloc (.cells #[.int .i64 3, .bool o.f1, .bool o.f2, .int .i64 o.f3, .int .i64 o.f4, .int .i64 o.f5.f0.f0, .slice A6 o.f5.f0.f1.length c6, .slice A7 o.f5.f1.length c7, .slice A8 o.f5.f2.length c8, .bool o.f6] 57))) := Lib.hid ((Below.refl _ _).alloc (Nat.le_refl _) _)
  have hu1 : Upd (fun _ => False) own w own1 (w.alloc (.cells #[.int .i64 3, .bool o.f1, .bool o.f2, .int .i64 o.f3, .int .i64 o.f4, .int .i64 o.f5.f0.f0, .slice A6 o.f5.f0.f1.length c6, .slice A7 o.f5.f1.length c7, .slice A8 o.f5.f2.length c8, .bool o.f6] 57)) := by rw [hown1]; exact Upd.alloc _ 0
  have HP1 := Lib.hid (hP.upd (T := fun _ => False) (fun e => e) (fun e => e) hu1)
  have HR1 := Lib.hid (hR.upd (T := fun _ => False) (fun e => e) (fun _ _ _ e => e) hu1)
  have HU1 := Lib.hid hu1
  have HO1 : Hid (own1 w.heap.size = 0) := Lib.hid (by rw [hown1]; exact fresh_new (Nat.le_refl _))
  have HNUM := Lib.hid (number21 ⟨3, o.f1, o.f2, o.f3, o.f4, o.f5, o.f6⟩ last A6 c6 A7 c7 A8 c8 (w.alloc (.cells #[.int .i64 3, .bool o.f1, .bool o.f2, .int .i64 o.f3, .int .i64 o.f4, .int .i64 o.f5.f0.f0, .slice A6 o.f5.f0.f1.length c6, .slice A7 o.f5.f1.length c7, .slice A8 o.f5.f2.length c8, .bool o.f6] 57)) (Kd.C_below hC6.now HB1.out) hl6 (Kd.C_below hC7.now HB1.out) hl7 (Kd.C_below hC8.now HB1.out) hl8)
  have HWF := Lib.hid (numOf_wf (o := ⟨3, o.f1, o.f2, o.f3, o.f4, o.f5, o.f6⟩) (last := last) hwf)
  have HRR := Lib.hid hRR
  have HPB := Lib.hid hPB
  have H0 := Lib.hid h0
  have HTR := Lib.hid htr
  have HNM := Lib.hid hnm
  have HC6 := Lib.hid (hC6.upd (S := fun _ => False) (fun e => e) hu1)
  have HC7 := Lib.hid (hC7.upd (S := fun _ => False) (fun e => e) hu1)
  have HC8 := Lib.hid (hC8.upd (S := fun _ => False) (fun e => e) hu1)
  have HON : Hid (∀ k, w.heap.size ≤ k → own1 k = 0) := Lib.hid (fun k hk => by rw [hown1]; exact fresh_new hk)
  have Hp := Lib.hid hp
  have Hl6 := Lib.hid hl6
  clear hP hR hRR hPB h0 htr hnm hC6 hl6 hC7 hl7 hC8 hl8 hp hwf hown1 hu1
  go_enter Try.func20, Try.ntmps20
  go_upto_region 1 with (fail)
  generalize w.alloc (.cells #[.int .i64 3, .bool o.f1, .bool o.f2, .int .i64 o.f3, .int .i64 o.f4, .int .i64 o.f5.f0.f0, .slice A6 o.f5.f0.f1.length c6, .slice A7 o.f5.f1.length c7, .slice A8 o.f5.f2.length c8, .bool o.f6] 57) = w1 at *
  generalize hbo : w.heap.size = bo at HX1 HO1 ⊢
  clear hbo
  have a0 : w1.cell? ⟨bo, 0, none⟩ = some (.int .i64 3) := blk_at HX1.out 0 rfl
  have a1 : w1.cell? ⟨bo, 1, none⟩ = some (.bool o.f1) := blk_at HX1.out 1 rfl
  have a2 : w1.cell? ⟨bo, 2, none⟩ = some (.bool o.f2) := blk_at HX1.out 2 rfl
  have a3 : w1.cell? ⟨bo, 3, none⟩ = some (.int .i64 o.f3) := blk_at HX1.out 3 rfl
  have a4 : w1.cell? ⟨bo, 4, none⟩ = some (.int .i64 o.f4) := blk_at HX1.out 4 rfl
  have a5 : w1.cell? ⟨bo, 5, none⟩ = some (.int .i64 o.f5.f0.f0) := blk_at HX1.out 5 rfl
  have a6 : w1.cell? ⟨bo, 6, none⟩ = some (.slice A6 o.f5.f0.f1.length c6) := blk_at HX1.out 6 rfl
  have a7 : w1.cell? ⟨bo, 7, none⟩ = some (.slice A7 o.f5.f1.length c7) := blk_at HX1.out 7 rfl
  have a8 : w1.cell? ⟨bo, 8, none⟩ = some (.slice A8 o.f5.f2.length c8) := blk_at HX1.out 8 rfl
  have a9 : w1.cell? ⟨bo, 9, none⟩ = some (.bool o.f6) := blk_at HX1.out 9 rfl
  go_upto_region 2 with (go_at_call 21; refine HNUM.out.mono ?_; rintro e w2 ⟨rfl, hb⟩)
  clear a0 a1 a2 a3 a4 a5 a6 a7 a8 a9 HNUM
  generalize numOf ⟨3, o.f1, o.f2, o.f3, o.f4, o.f5, o.f6⟩ last = id at *
  have hu2 : Upd (fun _ => False) own1 w1 own1 w2 := Upd.of_below' hb.out (fun _ _ => rfl)
  have HP2 := Lib.hid (HP1.out.upd (T := fun _ => False) (fun e => e) (fun e => e) hu2)
  have HR2 := Lib.hid (HR1.out.upd (T := fun _ => False) (fun e => e) (fun _ _ _ e => e) hu2)
  have HU2 : Hid (Upd (fun _ => False) own w own1 w2) := Lib.hid (HU1.out.then hu2)
  have HX2 := Lib.hid (blk_below HX1.out hb.out)
  replace HC6 := Lib.hid (HC6.out.upd (S := fun _ => False) (fun e => e) hu2)
  replace HC7 := Lib.hid (HC7.out.upd (S := fun _ => False) (fun e => e) hu2)
  replace HC8 := Lib.hid (HC8.out.upd (S := fun _ => False) (fun e => e) hu2)
  have HB2 : Hid (Below w.heap.size w w2) := Lib.hid (HB1.out.trans (hb.out.mono HB1.out.size))
  have a0 : w2.cell? ⟨bo, 0, none⟩ = some (.int .i64 3) := blk_at HX2.out 0 rfl
  have a1 : w2.cell? ⟨bo, 1, none⟩ = some (.bool o.f1) := blk_at HX2.out 1 rfl
  have a2 : w2.cell? ⟨bo, 2, none⟩ = some (.bool o.f2) := blk_at HX2.out 2 rfl
  have a3 : w2.cell? ⟨bo, 3, none⟩ = some (.int .i64 o.f3) := blk_at HX2.out 3 rfl
  have a4 : w2.cell? ⟨bo, 4, none⟩ = some (.int .i64 o.f4) := blk_at HX2.out 4 rfl
  have a5 : w2.cell? ⟨bo, 5, none⟩ = some (.int .i64 o.f5.f0.f0) := blk_at HX2.out 5 rfl
  have a6 : w2.cell? ⟨bo, 6, none⟩ = some (.slice A6 o.f5.f0.f1.length c6) := blk_at HX2.out 6 rfl
  have a7 : w2.cell? ⟨bo, 7, none⟩ = some (.slice A7 o.f5.f1.length c7) := blk_at HX2.out 7 rfl
  have a8 : w2.cell? ⟨bo, 8, none⟩ = some (.slice A8 o.f5.f2.length c8) := blk_at HX2.out 8 rfl
  have a9 : w2.cell? ⟨bo, 9, none⟩ = some (.bool o.f6) := blk_at HX2.out 9 rfl
  clear hb hu2 HP1 HR1 HU1 HX1 HB1
  have hemp := (HRR.out.empty HR2.out.ok).1 hbuf
  have HRR' := HRR
  have HPB' : Hid (PB R) := HPB
  have HCA : Calls Try.prog 12 #[.pointer (some ⟨g, 0, none⟩)] w2 fun e w' => e = .returned (.tuple #[.int .i64 0, .agg #[.int .i64 0, .int .u32 0, .slice none 0 0]]) ∧ PostTo own1 w2 g tg nm S w' := (pick12 own1 w2 g tg S bm c bw bp nm s r pps pbuf HP2.out H0.out (by have := HNM.out; omega)).mono (fun e w' hh => by unfold PickAns at hh; rw [hbuf] at hh; exact hh)
  have HRF : Hid (∀ (own3 : Nat → Nat) (W3 : World), RefAt own3 W3 gr tr R A cr rows rps → Calls Try.prog 37 #[.pointer (some ⟨gr, 0, none⟩)] W3 fun e w' => e = .returned (.tuple #[.int .i64 0, .agg #[.int .i64 0, .int .u32 0, .slice none 0 0]]) ∧ RefTo own3 W3 gr tr R w') := Lib.hid (fun own3 W3 hh => (pick37 own3 W3 gr tr R A cr rows rps hh (fun y hy => Nat.le_trans (HPB.out y hy) (by decide))).mono (fun e w' hh => by unfold RefPick at hh; rw [if_pos hemp] at hh; exact hh))
  have k1 : ((0 : Int) == 0) = true := rfl
  go_upto_region 15 with (go_at_call 12; refine HCA.mono ?_; rintro e w3 ⟨rfl, own3, bm3, c3, bw3, bp3, nm3, s3, r3, pps3, pbuf3, hP3, hU3, hn3⟩)
  clear a0 a1 a2 a3 a4 a5 a6 a7 a8 a9 HCA
  have hu3 : Upd (fun _ => False) own3 w3 (fresh own3 w3 0) (w3.alloc (.cells #[.int .i64 0, .int .u32 0, .slice none 0 0] 44)) := Upd.alloc _ 0
  have HP3 := Lib.hid (hP3.upd (T := fun _ => False) (fun e => e) (fun e => e) hu3)
  have HRc := HR2.out.upd (T := (· = tg)) (by have := H0.out; omega) (fun t_ h1 h2 h3 => by have := HTR.out; omega) hU3
  have HR3 := Lib.hid (HRc.upd (T := fun _ => False) (fun e => e) (fun _ _ _ e => e) hu3)
  have HU3 : Hid (Upd (fun t_ => t_ = tg ∨ Tg tr t_) own w (fresh own3 w3 0) (w3.alloc (.cells #[.int .i64 0, .int .u32 0, .slice none 0 0] 44))) := Lib.hid (((HU2.out.mono (fun _ h => h.elim)).then (hU3.mono (fun _ h => .inl h))).then (hu3.mono (fun _ h => h.elim)))
  have HX18 : Hid ((w3.alloc (.cells #[.int .i64 0, .int .u32 0, .slice none 0 0] 44)).heap[w3.heap.size]? = some (.cells #[.int .i64 0, .int .u32 0, .slice none 0 0] 44 (0, 0))) := Lib.hid (blk_new _ _)
  have HO18 : Hid (fresh own3 w3 0 w3.heap.size = 0) := Lib.hid (fresh_new (Nat.le_refl _))
  have Hn3 : Hid (nm3 ≤ nm + 2) := Lib.hid (by omega)
  clear hP3 hU3 hn3 hu3 HRc
  generalize w3.alloc (.cells #[.int .i64 0, .int .u32 0, .slice none 0 0] 44) = W3 at *
  generalize fresh own3 w3 0 = o3 at *
  generalize w3.heap.size = b18 at *
  have HRA := HRF.out o3 W3 HR3.out
  go_upto_region 16 with (go_at_call 37; refine HRA.mono ?_; rintro e w4 ⟨rfl, own4, A4, cr4, rows4, rps4, hR4, hU4⟩)
  have HX18' := hU4.blk HX18.out (by rw [HO18.out]; have := HTR.out; unfold Tg; omega)
  have hu4 : Upd (fun _ => False) own4 w4 (fresh own4 w4 0) (w4.alloc (.cells #[.int .i64 0, .int .u32 0, .slice none 0 0] 44)) := Upd.alloc _ 0
  have HP4 := Lib.hid ((HP3.out.upd (T := Tg tr) (by have := HTR.out; unfold Tg; omega) (by have := HTR.out; unfold Tg; omega) hU4).upd (T := fun _ => False) (fun e => e) (fun e => e) hu4)
  have HR4 := Lib.hid (hR4.upd (T := fun _ => False) (fun e => e) (fun _ _ _ e => e) hu4)
  have HU4 : Hid (Upd (fun t_ => t_ = tg ∨ Tg tr t_) own w (fresh own4 w4 0) (w4.alloc (.cells #[.int .i64 0, .int .u32 0, .slice none 0 0] 44))) := Lib.hid ((HU3.out.then (hU4.mono (fun _ h => .inr h))).then (hu4.mono (fun _ h => h.elim)))
  have HX20 : Hid ((w4.alloc (.cells #[.int .i64 0, .int .u32 0, .slice none 0 0] 44)).heap[w4.heap.size]? = some (.cells #[.int .i64 0, .int .u32 0, .slice none 0 0] 44 (0, 0))) := Lib.hid (blk_new _ _)
  have HX19 := Lib.hid (blk_alloc HX18' (.cells #[.int .i64 0, .int .u32 0, .slice none 0 0] 44))
  clear hR4 hU4 hu4 HX18'
  generalize w4.alloc (.cells #[.int .i64 0, .int .u32 0, .slice none 0 0] 44) = W4 at *
  generalize fresh own4 w4 0 = o4 at *
  generalize w4.heap.size = b20 at *
  have p0 : W4.cell? ⟨b18, 0, none⟩ = some (.int .i64 0) := blk_at HX19.out 0 rfl
  have p1 : W4.cell? ⟨b18, 1, none⟩ = some (.int .u32 0) := blk_at HX19.out 1 rfl
  have p2 : W4.cell? ⟨b18, 2, none⟩ = some (.slice none 0 0) := blk_at HX19.out 2 rfl
  have q0 : W4.cell? ⟨b20, 0, none⟩ = some (.int .i64 0) := blk_at HX20.out 0 rfl
  have q1 : W4.cell? ⟨b20, 1, none⟩ = some (.int .u32 0) := blk_at HX20.out 1 rfl
  have q2 : W4.cell? ⟨b20, 2, none⟩ = some (.slice none 0 0) := blk_at HX20.out 2 rfl
  have HSI := same38 0 0 [] none 0 none 0 W4 (Kd.C_nil _ _) (Kd.C_nil _ _) (fun y hy => by cases hy)
  go_wp2_with (go_at_call 38; refine HSI.mono ?_; rintro e w5 ⟨rfl, hb⟩
               have hu5 : Upd (fun _ => False) o4 W4 o4 w5 := Upd.of_below' hb.out (fun _ _ => rfl)
               have HP5 := Lib.hid (HP4.out.upd (T := fun _ => False) (fun e => e) (fun e => e) hu5)
               have HR5 := Lib.hid (HR4.out.upd (T := fun _ => False) (fun e => e) (fun _ _ _ e => e) hu5)
               have HU5 : Hid (Upd (fun t_ => t_ = tg ∨ Tg tr t_) own w o4 w5) := Lib.hid (HU4.out.then (hu5.mono (fun _ h => h.elim)))
               clear hu5 hb)
  go_ret2
  exact ⟨_, rfl, o4, _, _, bm3, c3, bw3, bp3, nm3, s3, r3, pps3, pbuf3, _, _, _, _, HP5, HR5, HRR', HPB', HU5, Hn3.out⟩
set_option maxRecDepth 100000 in
set_option maxHeartbeats 16000000 in
theorem plays20_pick_c (own : Nat → Nat) (w : World) (g gr tg tr : Nat) (S : PS) (R : RA) (bm c bw bp nm s r : Nat) (pps : List PP) (pbuf : List (Nat × PP)) (A : Option Addr) (cr : Nat) (rows : List SC) (rps : List PP) (hP : PostAt own w g tg S bm c bw bp nm s r pps pbuf) (hR : RefAt own w gr tr R A cr rows rps) (hRR : RR S R) (hPB : PB R) (h0 : tg ≠ 0) (htr : tg < tr) (hnm : nm + 1 < maxLen) (o : S57) (last : Int) (A6 : Option Addr) (c6 : Nat) (A7 : Option Addr) (c7 : Nat) (A8 : Option Addr) (c8 : Nat) (hC6 : StC k103 own w A6 o.f5.f0.f1.length o.f5.f0.f1) (hl6 : o.f5.f0.f1.length ≤ c6) (hC7 : StC (Kd.slice 83 k83) own w A7 o.f5.f1.length o.f5.f1) (hl7 : o.f5.f1.length ≤ c7) (hC8 : StC k83 own w A8 o.f5.f2.length o.f5.f2) (hl8 : o.f5.f2.length ≤ c8) (hp : partsP o.f5 ≤ 10000) (hwf : wfI o.f3) (t : Nat) (x : S40) (rest : List (Nat × S40)) (hbuf : S.buf = (t, x) :: rest) (hall : ¬ (S.took t x).all2 = true) : Calls Try.prog 20 #[.pointer (some ⟨g, 0, none⟩), .pointer (some ⟨gr, 0, none⟩), .agg #[.int .i64 3, .bool o.f1, .bool o.f2, .int .i64 o.f3, .int .i64 o.f4, .int .i64 o.f5.f0.f0, .slice A6 o.f5.f0.f1.length c6, .slice A7 o.f5.f1.length c7, .slice A8 o.f5.f2.length c8, .bool o.f6], .int .i64 last] w fun e w' => ∃ last', e = .returned (.tuple #[.int .i64 last', .bool true]) ∧ PlayTo own w g gr tg tr nm w' := by
  obtain ⟨own1, hown1⟩ : ∃ own1 : Nat → Nat, own1 = fresh own w 0 := ⟨_, rfl⟩
  have HX1 : Hid ((w.alloc (.cells #[.int .i64 3, .bool o.f1, .bool o.f2, .int .i64 o.f3, .int .i64 o.f4, .int .i64 o.f5.f0.f0, .slice A6 o.f5.f0.f1.length c6, .slice A7 o.f5.f1.length c7, .slice A8 o.f5.f2.length c8, .bool o.f6] 57)).heap[w.heap.size]? = some (.cells #[.int .i64 3, .bool o.f1, .bool o.f2, .int .i64 o.f3, .int .i64 o.f4, .int .i64 o.f5.f0.f0, .slice A6 o.f5.f0.f1.length c6, .slice A7 o.f5.f1.length c7, .slice A8 o.f5.f2.length c8, .bool o.f6] 57 (0, 0))) := Lib.hid (blk_new w _)
  have HB1 : Hid (Below w.heap.size w (w.alloc (.cells #[.int .i64 3, .bool o.f1, .bool o.f2, .int .i64 o.f3, .int .i64 o.f4, .int .i64 o.f5.f0.f0, .slice A6 o.f5.f0.f1.length c6, .slice A7 o.f5.f1.length c7, .slice A8 o.f5.f2.length c8, .bool o.f6] 57))) := Lib.hid ((Below.refl _ _).alloc (Nat.le_refl _) _)
  have hu1 : Upd (fun _ => False) own w own1 (w.alloc (.cells #[.int .i64 3, .bool o.f1, .bool o.f2, .int .i64 o.f3, .int .i64 o.f4, .int .i64 o.f5.f0.f0, .slice A6 o.f5.f0.f1.length c6, .slice A7 o.f5.f1.length c7, .slice A8 o.f5.f2.length c8, .bool o.f6] 57)) := by rw [hown1]; exact Upd.alloc _ 0
  have HP1 := Lib.hid (hP.upd (T := fun _ => False) (fun e => e) (fun e => e) hu1)
  have HR1 := Lib.hid (hR.upd (T := fun _ => False) (fun e => e) (fun _ _ _ e => e) hu1)
  have HU1 := Lib.hid hu1
  have HO1 : Hid (own1 w.heap.size = 0) := Lib.hid (by rw [hown1]; exact fresh_new (Nat.le_refl _))
  have HNUM := Lib.hid (number21 ⟨3, o.f1, o.f2, o.f3, o.f4, o.f5, o.f6⟩ last A6 c6 A7 c7 A8 c8 (w.alloc (.cells #[.int .i64 3, .bool o.f1, .bool o.f2, .int .i64 o.f3, .int .i64 o.f4, .int .i64 o.f5.f0.f0, .slice A6 o.f5.f0.f1.length c6, .slice A7 o.f5.f1.length c7, .slice A8 o.f5.f2.length c8, .bool o.f6] 57)) (Kd.C_below hC6.now HB1.out) hl6 (Kd.C_below hC7.now HB1.out) hl7 (Kd.C_below hC8.now HB1.out) hl8)
  have HWF := Lib.hid (numOf_wf (o := ⟨3, o.f1, o.f2, o.f3, o.f4, o.f5, o.f6⟩) (last := last) hwf)
  have HRR := Lib.hid hRR
  have HPB := Lib.hid hPB
  have H0 := Lib.hid h0
  have HTR := Lib.hid htr
  have HNM := Lib.hid hnm
  have HC6 := Lib.hid (hC6.upd (S := fun _ => False) (fun e => e) hu1)
  have HC7 := Lib.hid (hC7.upd (S := fun _ => False) (fun e => e) hu1)
  have HC8 := Lib.hid (hC8.upd (S := fun _ => False) (fun e => e) hu1)
  have HON : Hid (∀ k, w.heap.size ≤ k → own1 k = 0) := Lib.hid (fun k hk => by rw [hown1]; exact fresh_new hk)
  have Hp := Lib.hid hp
  have Hl6 := Lib.hid hl6
  clear hP hR hRR hPB h0 htr hnm hC6 hl6 hC7 hl7 hC8 hl8 hp hwf hown1 hu1
  go_enter Try.func20, Try.ntmps20
  go_upto_region 1 with (fail)
  generalize w.alloc (.cells #[.int .i64 3, .bool o.f1, .bool o.f2, .int .i64 o.f3, .int .i64 o.f4, .int .i64 o.f5.f0.f0, .slice A6 o.f5.f0.f1.length c6, .slice A7 o.f5.f1.length c7, .slice A8 o.f5.f2.length c8, .bool o.f6] 57) = w1 at *
  generalize hbo : w.heap.size = bo at HX1 HO1 ⊢
  clear hbo
  have a0 : w1.cell? ⟨bo, 0, none⟩ = some (.int .i64 3) := blk_at HX1.out 0 rfl
  have a1 : w1.cell? ⟨bo, 1, none⟩ = some (.bool o.f1) := blk_at HX1.out 1 rfl
  have a2 : w1.cell? ⟨bo, 2, none⟩ = some (.bool o.f2) := blk_at HX1.out 2 rfl
  have a3 : w1.cell? ⟨bo, 3, none⟩ = some (.int .i64 o.f3) := blk_at HX1.out 3 rfl
  have a4 : w1.cell? ⟨bo, 4, none⟩ = some (.int .i64 o.f4) := blk_at HX1.out 4 rfl
  have a5 : w1.cell? ⟨bo, 5, none⟩ = some (.int .i64 o.f5.f0.f0) := blk_at HX1.out 5 rfl
  have a6 : w1.cell? ⟨bo, 6, none⟩ = some (.slice A6 o.f5.f0.f1.length c6) := blk_at HX1.out 6 rfl
  have a7 : w1.cell? ⟨bo, 7, none⟩ = some (.slice A7 o.f5.f1.length c7) := blk_at HX1.out 7 rfl
  have a8 : w1.cell? ⟨bo, 8, none⟩ = some (.slice A8 o.f5.f2.length c8) := blk_at HX1.out 8 rfl
  have a9 : w1.cell? ⟨bo, 9, none⟩ = some (.bool o.f6) := blk_at HX1.out 9 rfl
  go_upto_region 2 with (go_at_call 21; refine HNUM.out.mono ?_; rintro e w2 ⟨rfl, hb⟩)
  clear a0 a1 a2 a3 a4 a5 a6 a7 a8 a9 HNUM
  generalize numOf ⟨3, o.f1, o.f2, o.f3, o.f4, o.f5, o.f6⟩ last = id at *
  have hu2 : Upd (fun _ => False) own1 w1 own1 w2 := Upd.of_below' hb.out (fun _ _ => rfl)
  have HP2 := Lib.hid (HP1.out.upd (T := fun _ => False) (fun e => e) (fun e => e) hu2)
  have HR2 := Lib.hid (HR1.out.upd (T := fun _ => False) (fun e => e) (fun _ _ _ e => e) hu2)
  have HU2 : Hid (Upd (fun _ => False) own w own1 w2) := Lib.hid (HU1.out.then hu2)
  have HX2 := Lib.hid (blk_below HX1.out hb.out)
  replace HC6 := Lib.hid (HC6.out.upd (S := fun _ => False) (fun e => e) hu2)
  replace HC7 := Lib.hid (HC7.out.upd (S := fun _ => False) (fun e => e) hu2)
  replace HC8 := Lib.hid (HC8.out.upd (S := fun _ => False) (fun e => e) hu2)
  have HB2 : Hid (Below w.heap.size w w2) := Lib.hid (HB1.out.trans (hb.out.mono HB1.out.size))
  have a0 : w2.cell? ⟨bo, 0, none⟩ = some (.int .i64 3) := blk_at HX2.out 0 rfl
  have a1 : w2.cell? ⟨bo, 1, none⟩ = some (.bool o.f1) := blk_at HX2.out 1 rfl
  have a2 : w2.cell? ⟨bo, 2, none⟩ = some (.bool o.f2) := blk_at HX2.out 2 rfl
  have a3 : w2.cell? ⟨bo, 3, none⟩ = some (.int .i64 o.f3) := blk_at HX2.out 3 rfl
  have a4 : w2.cell? ⟨bo, 4, none⟩ = some (.int .i64 o.f4) := blk_at HX2.out 4 rfl
  have a5 : w2.cell? ⟨bo, 5, none⟩ = some (.int .i64 o.f5.f0.f0) := blk_at HX2.out 5 rfl
  have a6 : w2.cell? ⟨bo, 6, none⟩ = some (.slice A6 o.f5.f0.f1.length c6) := blk_at HX2.out 6 rfl
  have a7 : w2.cell? ⟨bo, 7, none⟩ = some (.slice A7 o.f5.f1.length c7) := blk_at HX2.out 7 rfl
  have a8 : w2.cell? ⟨bo, 8, none⟩ = some (.slice A8 o.f5.f2.length c8) := blk_at HX2.out 8 rfl
  have a9 : w2.cell? ⟨bo, 9, none⟩ = some (.bool o.f6) := blk_at HX2.out 9 rfl
  clear hb hu2 HP1 HR1 HU1 HX1 HB1
  obtain ⟨hu, a1, a2, hT⟩ := HRR.out.took HP2.out.ok HR2.out.ok hbuf
  have hsh := HRR.out.shot HP2.out.ok HR2.out.ok hbuf
  have hlt : R.pk + 1 < R.n := Classical.byContradiction fun hc => hall (hsh.1.2 hc)
  have HRR' := Lib.hid hT
  have HPB' : Hid (PB R.took) := HPB
  have HCA : Calls Try.prog 12 #[.pointer (some ⟨g, 0, none⟩)] w2 fun e w' => e = .returned (.tuple #[.int .i64 1, .agg #[.int .i64 0, .int .u32 0, .slice none 0 0]]) ∧ PostTo own1 w2 g tg nm (S.took t x) w' := (pick12 own1 w2 g tg S bm c bw bp nm s r pps pbuf HP2.out H0.out (by have := HNM.out; omega)).mono (fun e w' hh => by unfold PickAns at hh; rw [hbuf] at hh; simp only [] at hh; rw [if_neg hall] at hh; exact hh)
  have HRF : Hid (∀ (own3 : Nat → Nat) (W3 : World), RefAt own3 W3 gr tr R A cr rows rps → Calls Try.prog 37 #[.pointer (some ⟨gr, 0, none⟩)] W3 fun e w' => e = .returned (.tuple #[.int .i64 1, .agg #[.int .i64 0, .int .u32 0, .slice none 0 0]]) ∧ RefTo own3 W3 gr tr R.took w') := Lib.hid (fun own3 W3 hh => (pick37 own3 W3 gr tr R A cr rows rps hh (fun y hy => Nat.le_trans (HPB.out y hy) (by decide))).mono (fun e w' hh => by unfold RefPick at hh; rw [if_neg (by omega), if_pos hlt] at hh; exact hh))
  have k1 : ((1 : Int) == 1) = true := rfl
  go_upto_region 15 with (go_at_call 12; refine HCA.mono ?_; rintro e w3 ⟨rfl, own3, bm3, c3, bw3, bp3, nm3, s3, r3, pps3, pbuf3, hP3, hU3, hn3⟩)
  clear a0 a1 a2 a3 a4 a5 a6 a7 a8 a9 HCA
  have hu3 : Upd (fun _ => False) own3 w3 (fresh own3 w3 0) (w3.alloc (.cells #[.int .i64 0, .int .u32 0, .slice none 0 0] 44)) := Upd.alloc _ 0
  have HP3 := Lib.hid (hP3.upd (T := fun _ => False) (fun e => e) (fun e => e) hu3)
  have HRc := HR2.out.upd (T := (· = tg)) (by have := H0.out; omega) (fun t_ h1 h2 h3 => by have := HTR.out; omega) hU3
  have HR3 := Lib.hid (HRc.upd (T := fun _ => False) (fun e => e) (fun _ _ _ e => e) hu3)
  have HU3 : Hid (Upd (fun t_ => t_ = tg ∨ Tg tr t_) own w (fresh own3 w3 0) (w3.alloc (.cells #[.int .i64 0, .int .u32 0, .slice none 0 0] 44))) := Lib.hid (((HU2.out.mono (fun _ h => h.elim)).then (hU3.mono (fun _ h => .inl h))).then (hu3.mono (fun _ h => h.elim)))
  have HX18 : Hid ((w3.alloc (.cells #[.int .i64 0, .int .u32 0, .slice none 0 0] 44)).heap[w3.heap.size]? = some (.cells #[.int .i64 0, .int .u32 0, .slice none 0 0] 44 (0, 0))) := Lib.hid (blk_new _ _)
  have HO18 : Hid (fresh own3 w3 0 w3.heap.size = 0) := Lib.hid (fresh_new (Nat.le_refl _))
  have Hn3 : Hid (nm3 ≤ nm + 2) := Lib.hid (by omega)
  clear hP3 hU3 hn3 hu3 HRc
  generalize w3.alloc (.cells #[.int .i64 0, .int .u32 0, .slice none 0 0] 44) = W3 at *
  generalize fresh own3 w3 0 = o3 at *
  generalize w3.heap.size = b18 at *
  have HRA := HRF.out o3 W3 HR3.out
  go_upto_region 16 with (go_at_call 37; refine HRA.mono ?_; rintro e w4 ⟨rfl, own4, A4, cr4, rows4, rps4, hR4, hU4⟩)
  have HX18' := hU4.blk HX18.out (by rw [HO18.out]; have := HTR.out; unfold Tg; omega)
  have hu4 : Upd (fun _ => False) own4 w4 (fresh own4 w4 0) (w4.alloc (.cells #[.int .i64 0, .int .u32 0, .slice none 0 0] 44)) := Upd.alloc _ 0
  have HP4 := Lib.hid ((HP3.out.upd (T := Tg tr) (by have := HTR.out; unfold Tg; omega) (by have := HTR.out; unfold Tg; omega) hU4).upd (T := fun _ => False) (fun e => e) (fun e => e) hu4)
  have HR4 := Lib.hid (hR4.upd (T := fun _ => False) (fun e => e) (fun _ _ _ e => e) hu4)
  have HU4 : Hid (Upd (fun t_ => t_ = tg ∨ Tg tr t_) own w (fresh own4 w4 0) (w4.alloc (.cells #[.int .i64 0, .int .u32 0, .slice none 0 0] 44))) := Lib.hid ((HU3.out.then (hU4.mono (fun _ h => .inr h))).then (hu4.mono (fun _ h => h.elim)))
  have HX20 : Hid ((w4.alloc (.cells #[.int .i64 0, .int .u32 0, .slice none 0 0] 44)).heap[w4.heap.size]? = some (.cells #[.int .i64 0, .int .u32 0, .slice none 0 0] 44 (0, 0))) := Lib.hid (blk_new _ _)
  have HX19 := Lib.hid (blk_alloc HX18' (.cells #[.int .i64 0, .int .u32 0, .slice none 0 0] 44))
  clear hR4 hU4 hu4 HX18'
  generalize w4.alloc (.cells #[.int .i64 0, .int .u32 0, .slice none 0 0] 44) = W4 at *
  generalize fresh own4 w4 0 = o4 at *
  generalize w4.heap.size = b20 at *
  have p0 : W4.cell? ⟨b18, 0, none⟩ = some (.int .i64 0) := blk_at HX19.out 0 rfl
  have p1 : W4.cell? ⟨b18, 1, none⟩ = some (.int .u32 0) := blk_at HX19.out 1 rfl
  have p2 : W4.cell? ⟨b18, 2, none⟩ = some (.slice none 0 0) := blk_at HX19.out 2 rfl
  have q0 : W4.cell? ⟨b20, 0, none⟩ = some (.int .i64 0) := blk_at HX20.out 0 rfl
  have q1 : W4.cell? ⟨b20, 1, none⟩ = some (.int .u32 0) := blk_at HX20.out 1 rfl
  have q2 : W4.cell? ⟨b20, 2, none⟩ = some (.slice none 0 0) := blk_at HX20.out 2 rfl
  have HSI := same38 0 0 [] none 0 none 0 W4 (Kd.C_nil _ _) (Kd.C_nil _ _) (fun y hy => by cases hy)
  go_wp2_with (go_at_call 38; refine HSI.mono ?_; rintro e w5 ⟨rfl, hb⟩
               have hu5 : Upd (fun _ => False) o4 W4 o4 w5 := Upd.of_below' hb.out (fun _ _ => rfl)
               have HP5 := Lib.hid (HP4.out.upd (T := fun _ => False) (fun e => e) (fun e => e) hu5)
               have HR5 := Lib.hid (HR4.out.upd (T := fun _ => False) (fun e => e) (fun _ _ _ e => e) hu5)
               have HU5 : Hid (Upd (fun t_ => t_ = tg ∨ Tg tr t_) own w o4 w5) := Lib.hid (HU4.out.then (hu5.mono (fun _ h => h.elim)))
               clear hu5 hb)
  go_ret2
  exact ⟨_, rfl, o4, _, _, bm3, c3, bw3, bp3, nm3, s3, r3, pps3, pbuf3, _, _, _, _, HP5, HR5, HRR', HPB', HU5, Hn3.out⟩
set_option maxRecDepth 100000 in
set_option maxHeartbeats 16000000 in
theorem plays20_pick_b (own : Nat → Nat) (w : World) (g gr tg tr : Nat) (S : PS) (R : RA) (bm c bw bp nm s r : Nat) (pps : List PP) (pbuf : List (Nat × PP)) (A : Option Addr) (cr : Nat) (rows : List SC) (rps : List PP) (hP : PostAt own w g tg S bm c bw bp nm s r pps pbuf) (hR : RefAt own w gr tr R A cr rows rps) (hRR : RR S R) (hPB : PB R) (h0 : tg ≠ 0) (htr : tg < tr) (hnm : nm + 1 < maxLen) (o : S57) (last : Int) (A6 : Option Addr) (c6 : Nat) (A7 : Option Addr) (c7 : Nat) (A8 : Option Addr) (c8 : Nat) (hC6 : StC k103 own w A6 o.f5.f0.f1.length o.f5.f0.f1) (hl6 : o.f5.f0.f1.length ≤ c6) (hC7 : StC (Kd.slice 83 k83) own w A7 o.f5.f1.length o.f5.f1) (hl7 : o.f5.f1.length ≤ c7) (hC8 : StC k83 own w A8 o.f5.f2.length o.f5.f2) (hl8 : o.f5.f2.length ≤ c8) (hp : partsP o.f5 ≤ 10000) (hwf : wfI o.f3) (t : Nat) (x : S40) (rest : List (Nat × S40)) (hbuf : S.buf = (t, x) :: rest) (hall : (S.took t x).all2 = true) : Calls Try.prog 20 #[.pointer (some ⟨g, 0, none⟩), .pointer (some ⟨gr, 0, none⟩), .agg #[.int .i64 3, .bool o.f1, .bool o.f2, .int .i64 o.f3, .int .i64 o.f4, .int .i64 o.f5.f0.f0, .slice A6 o.f5.f0.f1.length c6, .slice A7 o.f5.f1.length c7, .slice A8 o.f5.f2.length c8, .bool o.f6], .int .i64 last] w fun e w' => ∃ last', e = .returned (.tuple #[.int .i64 last', .bool true]) ∧ PlayTo own w g gr tg tr nm w' := by
  obtain ⟨own1, hown1⟩ : ∃ own1 : Nat → Nat, own1 = fresh own w 0 := ⟨_, rfl⟩
  have HX1 : Hid ((w.alloc (.cells #[.int .i64 3, .bool o.f1, .bool o.f2, .int .i64 o.f3, .int .i64 o.f4, .int .i64 o.f5.f0.f0, .slice A6 o.f5.f0.f1.length c6, .slice A7 o.f5.f1.length c7, .slice A8 o.f5.f2.length c8, .bool o.f6] 57)).heap[w.heap.size]? = some (.cells #[.int .i64 3, .bool o.f1, .bool o.f2, .int .i64 o.f3, .int .i64 o.f4, .int .i64 o.f5.f0.f0, .slice A6 o.f5.f0.f1.length c6, .slice A7 o.f5.f1.length c7, .slice A8 o.f5.f2.length c8, .bool o.f6] 57 (0, 0))) := Lib.hid (blk_new w _)
  have HB1 : Hid (Below w.heap.size w (w.alloc (.cells #[.int .i64 3, .bool o.f1, .bool o.f2, .int .i64 o.f3, .int .i64 o.f4, .int .i64 o.f5.f0.f0, .slice A6 o.f5.f0.f1.length c6, .slice A7 o.f5.f1.length c7, .slice A8 o.f5.f2.length c8, .bool o.f6] 57))) := Lib.hid ((Below.refl _ _).alloc (Nat.le_refl _) _)
  have hu1 : Upd (fun _ => False) own w own1 (w.alloc (.cells #[.int .i64 3, .bool o.f1, .bool o.f2, .int .i64 o.f3, .int .i64 o.f4, .int .i64 o.f5.f0.f0, .slice A6 o.f5.f0.f1.length c6, .slice A7 o.f5.f1.length c7, .slice A8 o.f5.f2.length c8, .bool o.f6] 57)) := by rw [hown1]; exact Upd.alloc _ 0
  have HP1 := Lib.hid (hP.upd (T := fun _ => False) (fun e => e) (fun e => e) hu1)
  have HR1 := Lib.hid (hR.upd (T := fun _ => False) (fun e => e) (fun _ _ _ e => e) hu1)
  have HU1 := Lib.hid hu1
  have HO1 : Hid (own1 w.heap.size = 0) := Lib.hid (by rw [hown1]; exact fresh_new (Nat.le_refl _))
  have HNUM := Lib.hid (number21 ⟨3, o.f1, o.f2, o.f3, o.f4, o.f5, o.f6⟩ last A6 c6 A7 c7 A8 c8 (w.alloc (.cells #[.int .i64 3, .bool o.f1, .bool o.f2, .int .i64 o.f3, .int .i64 o.f4, .int .i64 o.f5.f0.f0, .slice A6 o.f5.f0.f1.length c6, .slice A7 o.f5.f1.length c7, .slice A8 o.f5.f2.length c8, .bool o.f6] 57)) (Kd.C_below hC6.now HB1.out) hl6 (Kd.C_below hC7.now HB1.out) hl7 (Kd.C_below hC8.now HB1.out) hl8)
  have HWF := Lib.hid (numOf_wf (o := ⟨3, o.f1, o.f2, o.f3, o.f4, o.f5, o.f6⟩) (last := last) hwf)
  have HRR := Lib.hid hRR
  have HPB := Lib.hid hPB
  have H0 := Lib.hid h0
  have HTR := Lib.hid htr
  have HNM := Lib.hid hnm
  have HC6 := Lib.hid (hC6.upd (S := fun _ => False) (fun e => e) hu1)
  have HC7 := Lib.hid (hC7.upd (S := fun _ => False) (fun e => e) hu1)
  have HC8 := Lib.hid (hC8.upd (S := fun _ => False) (fun e => e) hu1)
  have HON : Hid (∀ k, w.heap.size ≤ k → own1 k = 0) := Lib.hid (fun k hk => by rw [hown1]; exact fresh_new hk)
  have Hp := Lib.hid hp
  have Hl6 := Lib.hid hl6
  clear hP hR hRR hPB h0 htr hnm hC6 hl6 hC7 hl7 hC8 hl8 hp hwf hown1 hu1
  go_enter Try.func20, Try.ntmps20
  go_upto_region 1 with (fail)
  generalize w.alloc (.cells #[.int .i64 3, .bool o.f1, .bool o.f2, .int .i64 o.f3, .int .i64 o.f4, .int .i64 o.f5.f0.f0, .slice A6 o.f5.f0.f1.length c6, .slice A7 o.f5.f1.length c7, .slice A8 o.f5.f2.length c8, .bool o.f6] 57) = w1 at *
  generalize hbo : w.heap.size = bo at HX1 HO1 ⊢
  clear hbo
  have a0 : w1.cell? ⟨bo, 0, none⟩ = some (.int .i64 3) := blk_at HX1.out 0 rfl
  have a1 : w1.cell? ⟨bo, 1, none⟩ = some (.bool o.f1) := blk_at HX1.out 1 rfl
  have a2 : w1.cell? ⟨bo, 2, none⟩ = some (.bool o.f2) := blk_at HX1.out 2 rfl
  have a3 : w1.cell? ⟨bo, 3, none⟩ = some (.int .i64 o.f3) := blk_at HX1.out 3 rfl
  have a4 : w1.cell? ⟨bo, 4, none⟩ = some (.int .i64 o.f4) := blk_at HX1.out 4 rfl
  have a5 : w1.cell? ⟨bo, 5, none⟩ = some (.int .i64 o.f5.f0.f0) := blk_at HX1.out 5 rfl
  have a6 : w1.cell? ⟨bo, 6, none⟩ = some (.slice A6 o.f5.f0.f1.length c6) := blk_at HX1.out 6 rfl
  have a7 : w1.cell? ⟨bo, 7, none⟩ = some (.slice A7 o.f5.f1.length c7) := blk_at HX1.out 7 rfl
  have a8 : w1.cell? ⟨bo, 8, none⟩ = some (.slice A8 o.f5.f2.length c8) := blk_at HX1.out 8 rfl
  have a9 : w1.cell? ⟨bo, 9, none⟩ = some (.bool o.f6) := blk_at HX1.out 9 rfl
  go_upto_region 2 with (go_at_call 21; refine HNUM.out.mono ?_; rintro e w2 ⟨rfl, hb⟩)
  clear a0 a1 a2 a3 a4 a5 a6 a7 a8 a9 HNUM
  generalize numOf ⟨3, o.f1, o.f2, o.f3, o.f4, o.f5, o.f6⟩ last = id at *
  have hu2 : Upd (fun _ => False) own1 w1 own1 w2 := Upd.of_below' hb.out (fun _ _ => rfl)
  have HP2 := Lib.hid (HP1.out.upd (T := fun _ => False) (fun e => e) (fun e => e) hu2)
  have HR2 := Lib.hid (HR1.out.upd (T := fun _ => False) (fun e => e) (fun _ _ _ e => e) hu2)
  have HU2 : Hid (Upd (fun _ => False) own w own1 w2) := Lib.hid (HU1.out.then hu2)
  have HX2 := Lib.hid (blk_below HX1.out hb.out)
  replace HC6 := Lib.hid (HC6.out.upd (S := fun _ => False) (fun e => e) hu2)
  replace HC7 := Lib.hid (HC7.out.upd (S := fun _ => False) (fun e => e) hu2)
  replace HC8 := Lib.hid (HC8.out.upd (S := fun _ => False) (fun e => e) hu2)
  have HB2 : Hid (Below w.heap.size w w2) := Lib.hid (HB1.out.trans (hb.out.mono HB1.out.size))
  have a0 : w2.cell? ⟨bo, 0, none⟩ = some (.int .i64 3) := blk_at HX2.out 0 rfl
  have a1 : w2.cell? ⟨bo, 1, none⟩ = some (.bool o.f1) := blk_at HX2.out 1 rfl
  have a2 : w2.cell? ⟨bo, 2, none⟩ = some (.bool o.f2) := blk_at HX2.out 2 rfl
  have a3 : w2.cell? ⟨bo, 3, none⟩ = some (.int .i64 o.f3) := blk_at HX2.out 3 rfl
  have a4 : w2.cell? ⟨bo, 4, none⟩ = some (.int .i64 o.f4) := blk_at HX2.out 4 rfl
  have a5 : w2.cell? ⟨bo, 5, none⟩ = some (.int .i64 o.f5.f0.f0) := blk_at HX2.out 5 rfl
  have a6 : w2.cell? ⟨bo, 6, none⟩ = some (.slice A6 o.f5.f0.f1.length c6) := blk_at HX2.out 6 rfl
  have a7 : w2.cell? ⟨bo, 7, none⟩ = some (.slice A7 o.f5.f1.length c7) := blk_at HX2.out 7 rfl
  have a8 : w2.cell? ⟨bo, 8, none⟩ = some (.slice A8 o.f5.f2.length c8) := blk_at HX2.out 8 rfl
  have a9 : w2.cell? ⟨bo, 9, none⟩ = some (.bool o.f6) := blk_at HX2.out 9 rfl
  clear hb hu2 HP1 HR1 HU1 HX1 HB1
  obtain ⟨hu, a1, a2, hT⟩ := HRR.out.took HP2.out.ok HR2.out.ok hbuf
  have hsh := HRR.out.shot HP2.out.ok HR2.out.ok hbuf
  have hlt : ¬ R.pk + 1 < R.n := hsh.1.1 hall
  obtain ⟨eid, esum, eps, hR'⟩ := hsh.2 hall
  have HRR' := Lib.hid hR'
  have HPB' : Hid (PB ⟨R.n, R.first, R.sum, R.sts.set R.now.toNat 2, R.ps, R.ts, R.pk + 1⟩) := HPB
  have HCA : Calls Try.prog 12 #[.pointer (some ⟨g, 0, none⟩)] w2 fun e w' => ∃ own' bm c bw bp nm' s r pps pbuf v, e = .returned (.tuple #[.int .i64 2, .agg #[.int .i64 S.under, .int .u32 S.sum, v]]) ∧ ShotIs own' w' v (S.took t x).ps ∧ PostAt own' w' g tg (S.took t x).shot bm c bw bp nm' s r pps pbuf ∧ Upd (· = tg) own1 w2 own' w' ∧ nm' ≤ nm + 1 := (pick12 own1 w2 g tg S bm c bw bp nm s r pps pbuf HP2.out H0.out (by have := HNM.out; omega)).mono (fun e w' hh => by unfold PickAns at hh; rw [hbuf] at hh; simp only [] at hh; rw [if_pos hall] at hh; exact hh)
  have HRF : Hid (∀ (own3 : Nat → Nat) (W3 : World), RefAt own3 W3 gr tr R A cr rows rps → Calls Try.prog 37 #[.pointer (some ⟨gr, 0, none⟩)] W3 fun e w' => ∃ own' A' c' rows' pps' v, e = .returned (.tuple #[.int .i64 2, .agg #[.int .i64 (R.first + R.now), .int .u32 R.sum, v]]) ∧ ShotIs own' w' v (byTask R.ts R.ps R.n) ∧ RefAt own' w' gr tr ⟨R.n, R.first, R.sum, R.sts.set R.now.toNat 2, R.ps, R.ts, R.pk + 1⟩ A' c' rows' pps' ∧ Upd (Tg tr) own3 W3 own' w') := Lib.hid (fun own3 W3 hh => (pick37 own3 W3 gr tr R A cr rows rps hh (fun y hy => Nat.le_trans (HPB.out y hy) (by decide))).mono (fun e w' hh => by unfold RefPick at hh; rw [if_neg (by omega), if_neg hlt] at hh; exact hh))
  have hbt := byTask_mem (ts := R.ts) (ps := R.ps) HR2.out.ok.lt R.n
  have HLP : Hid (∀ y ∈ byTask R.ts R.ps R.n, partsP y ≤ 100000) := Lib.hid (fun y hy => Nat.le_trans (HPB.out y (hbt y hy)) (by decide))
  obtain ⟨id', hid'⟩ : ∃ y, y = R.first + R.now := ⟨_, rfl⟩
  obtain ⟨sum, hsum⟩ : ∃ y, y = R.sum := ⟨_, rfl⟩
  obtain ⟨L, hL⟩ : ∃ y, y = byTask R.ts R.ps R.n := ⟨_, rfl⟩
  obtain ⟨ln, hln⟩ : ∃ y, y = L.length := ⟨_, rfl⟩
  rw [eid, esum, eps, ← hid', ← hsum, ← hL] at HCA
  rw [← hid', ← hsum, ← hL] at HRF
  rw [← hsum] at HRR' HPB'
  rw [← hL] at HLP
  have HLN := Lib.hid hln
  clear eid esum eps hid' hsum hL hln hbt hsh hall hlt hR' hT hu a1 a2
  have k1 : ((2 : Int) == 2) = true := rfl
  go_upto_region 15 with (go_at_call 12; refine HCA.mono ?_; rintro e w3 ⟨own3, bm3, c3, bw3, bp3, nm3, s3, r3, pps3, pbuf3, v, rfl, hS3, hP3, hU3, hn3⟩
                          obtain ⟨Av, cv, rfl, hcv, hS3⟩ := hS3
                          rw [← HLN.out] at hcv hS3 ⊢)
  clear a0 a1 a2 a3 a4 a5 a6 a7 a8 a9 HCA
  have hu3 : Upd (fun _ => False) own3 w3 (fresh own3 w3 0) (w3.alloc (.cells #[.int .i64 id', .int .u32 sum, .slice Av ln cv] 44)) := Upd.alloc _ 0
  have HP3 := Lib.hid (hP3.upd (T := fun _ => False) (fun e => e) (fun e => e) hu3)
  have HRc := HR2.out.upd (T := (· = tg)) (by have := H0.out; omega) (fun t_ h1 h2 h3 => by have := HTR.out; omega) hU3
  have HR3 := Lib.hid (HRc.upd (T := fun _ => False) (fun e => e) (fun _ _ _ e => e) hu3)
  have HU3 : Hid (Upd (fun t_ => t_ = tg ∨ Tg tr t_) own w (fresh own3 w3 0) (w3.alloc (.cells #[.int .i64 id', .int .u32 sum, .slice Av ln cv] 44))) := Lib.hid (((HU2.out.mono (fun _ h => h.elim)).then (hU3.mono (fun _ h => .inl h))).then (hu3.mono (fun _ h => h.elim)))
  have HX18 : Hid ((w3.alloc (.cells #[.int .i64 id', .int .u32 sum, .slice Av ln cv] 44)).heap[w3.heap.size]? = some (.cells #[.int .i64 id', .int .u32 sum, .slice Av ln cv] 44 (0, 0))) := Lib.hid (blk_new _ _)
  have HO18 : Hid (fresh own3 w3 0 w3.heap.size = 0) := Lib.hid (fresh_new (Nat.le_refl _))
  have Hn3 : Hid (nm3 ≤ nm + 2) := Lib.hid (by omega)
  have HS3 := Lib.hid (hS3.upd (S := fun _ => False) (fun e => e) hu3)
  clear hP3 hU3 hn3 hu3 HRc hS3
  generalize w3.alloc (.cells #[.int .i64 id', .int .u32 sum, .slice Av ln cv] 44) = W3 at *
  generalize fresh own3 w3 0 = o3 at *
  generalize w3.heap.size = b18 at *
  have HRA := HRF.out o3 W3 HR3.out
  go_upto_region 16 with (go_at_call 37; refine HRA.mono ?_; rintro e w4 ⟨own4, A4, cr4, rows4, rps4, v, rfl, hS4, hR4, hU4⟩
                          obtain ⟨Aw, cw, rfl, hcw, hS4⟩ := hS4
                          rw [← HLN.out] at hcw hS4 ⊢)
  have HX18' := hU4.blk HX18.out (by rw [HO18.out]; have := HTR.out; unfold Tg; omega)
  have hu4 : Upd (fun _ => False) own4 w4 (fresh own4 w4 0) (w4.alloc (.cells #[.int .i64 id', .int .u32 sum, .slice Aw ln cw] 44)) := Upd.alloc _ 0
  have HP4 := Lib.hid ((HP3.out.upd (T := Tg tr) (by have := HTR.out; unfold Tg; omega) (by have := HTR.out; unfold Tg; omega) hU4).upd (T := fun _ => False) (fun e => e) (fun e => e) hu4)
  have HR4 := Lib.hid (hR4.upd (T := fun _ => False) (fun e => e) (fun _ _ _ e => e) hu4)
  have HU4 : Hid (Upd (fun t_ => t_ = tg ∨ Tg tr t_) own w (fresh own4 w4 0) (w4.alloc (.cells #[.int .i64 id', .int .u32 sum, .slice Aw ln cw] 44))) := Lib.hid ((HU3.out.then (hU4.mono (fun _ h => .inr h))).then (hu4.mono (fun _ h => h.elim)))
  have HX20 : Hid ((w4.alloc (.cells #[.int .i64 id', .int .u32 sum, .slice Aw ln cw] 44)).heap[w4.heap.size]? = some (.cells #[.int .i64 id', .int .u32 sum, .slice Aw ln cw] 44 (0, 0))) := Lib.hid (blk_new _ _)
  have HX19 := Lib.hid (blk_alloc HX18' (.cells #[.int .i64 id', .int .u32 sum, .slice Aw ln cw] 44))
  have HS5 := Lib.hid ((HS3.out.upd (S := Tg tr) (by have := HTR.out; unfold Tg; omega) hU4).upd (S := fun _ => False) (fun e => e) hu4)
  have HS6 := Lib.hid (hS4.upd (S := fun _ => False) (fun e => e) hu4)
  clear hR4 hU4 hu4 HX18'
  generalize w4.alloc (.cells #[.int .i64 id', .int .u32 sum, .slice Aw ln cw] 44) = W4 at *
  generalize fresh own4 w4 0 = o4 at *
  generalize w4.heap.size = b20 at *
  have p0 : W4.cell? ⟨b18, 0, none⟩ = some (.int .i64 id') := blk_at HX19.out 0 rfl
  have p1 : W4.cell? ⟨b18, 1, none⟩ = some (.int .u32 sum) := blk_at HX19.out 1 rfl
  have p2 : W4.cell? ⟨b18, 2, none⟩ = some (.slice Av ln cv) := blk_at HX19.out 2 rfl
  have q0 : W4.cell? ⟨b20, 0, none⟩ = some (.int .i64 id') := blk_at HX20.out 0 rfl
  have q1 : W4.cell? ⟨b20, 1, none⟩ = some (.int .u32 sum) := blk_at HX20.out 1 rfl
  have q2 : W4.cell? ⟨b20, 2, none⟩ = some (.slice Aw ln cw) := blk_at HX20.out 2 rfl
  have HSI := same38 id' sum L Av cv Aw cw W4 (by rw [← HLN.out]; exact HS5.out.now) (by rw [← HLN.out]; exact HS6.out.now) HLP.out
  rw [← HLN.out] at HSI
  go_wp2_with (go_at_call 38; refine HSI.mono ?_; rintro e w5 ⟨rfl, hb⟩
               have hu5 : Upd (fun _ => False) o4 W4 o4 w5 := Upd.of_below' hb.out (fun _ _ => rfl)
               have HP5 := Lib.hid (HP4.out.upd (T := fun _ => False) (fun e => e) (fun e => e) hu5)
               have HR5 := Lib.hid (HR4.out.upd (T := fun _ => False) (fun e => e) (fun _ _ _ e => e) hu5)
               have HU5 : Hid (Upd (fun t_ => t_ = tg ∨ Tg tr t_) own w o4 w5) := Lib.hid (HU4.out.then (hu5.mono (fun _ h => h.elim)))
               clear hu5 hb)
  go_ret2
  exact ⟨_, rfl, o4, _, _, bm3, c3, bw3, bp3, nm3, s3, r3, pps3, pbuf3, _, _, _, _, HP5, HR5, HRR', HPB', HU5, Hn3.out⟩
theorem plays20_pick (own : Nat → Nat) (w : World) (g gr tg tr : Nat) (S : PS) (R : RA) (bm c bw bp nm s r : Nat) (pps : List PP) (pbuf : List (Nat × PP)) (A : Option Addr) (cr : Nat) (rows : List SC) (rps : List PP) (hP : PostAt own w g tg S bm c bw bp nm s r pps pbuf) (hR : RefAt own w gr tr R A cr rows rps) (hRR : RR S R) (hPB : PB R) (h0 : tg ≠ 0) (htr : tg < tr) (hnm : nm + 1 < maxLen) (o : S57) (last : Int) (A6 : Option Addr) (c6 : Nat) (A7 : Option Addr) (c7 : Nat) (A8 : Option Addr) (c8 : Nat) (hC6 : StC k103 own w A6 o.f5.f0.f1.length o.f5.f0.f1) (hl6 : o.f5.f0.f1.length ≤ c6) (hC7 : StC (Kd.slice 83 k83) own w A7 o.f5.f1.length o.f5.f1) (hl7 : o.f5.f1.length ≤ c7) (hC8 : StC k83 own w A8 o.f5.f2.length o.f5.f2) (hl8 : o.f5.f2.length ≤ c8) (hp : partsP o.f5 ≤ 10000) (hwf : wfI o.f3) : Calls Try.prog 20 #[.pointer (some ⟨g, 0, none⟩), .pointer (some ⟨gr, 0, none⟩), .agg #[.int .i64 3, .bool o.f1, .bool o.f2, .int .i64 o.f3, .int .i64 o.f4, .int .i64 o.f5.f0.f0, .slice A6 o.f5.f0.f1.length c6, .slice A7 o.f5.f1.length c7, .slice A8 o.f5.f2.length c8, .bool o.f6], .int .i64 last] w fun e w' => ∃ last', e = .returned (.tuple #[.int .i64 last', .bool true]) ∧ PlayTo own w g gr tg tr nm w' := by
  match hbuf : S.buf with
  | [] => exact plays20_pick_a own w g gr tg tr S R bm c bw bp nm s r pps pbuf A cr rows rps hP hR hRR hPB h0 htr hnm o last A6 c6 A7 c7 A8 c8 hC6 hl6 hC7 hl7 hC8 hl8 hp hwf hbuf
  | (t, x) :: rest =>
    by_cases hall : (S.took t x).all2 = true
    · exact plays20_pick_b own w g gr tg tr S R bm c bw bp nm s r pps pbuf A cr rows rps hP hR hRR hPB h0 htr hnm o last A6 c6 A7 c7 A8 c8 hC6 hl6 hC7 hl7 hC8 hl8 hp hwf t x rest hbuf hall
    · exact plays20_pick_c own w g gr tg tr S R bm c bw bp nm s r pps pbuf A cr rows rps hP hR hRR hPB h0 htr hnm o last A6 c6 A7 c7 A8 c8 hC6 hl6 hC7 hl7 hC8 hl8 hp hwf t x rest hbuf hall
end Go.Proofs.Ytcbaiplamaopeaa.PPostShots
