/- plays: one call to both. -/
import Derived.Test.YtcbaiplamaopeaaEO
import Derived.Test.YtcbaiplamaopeaaEL
import Derived.Test.YtcbaiplamaopeaaXN
namespace Go.Proofs.Ytcbaiplamaopeaa.PPostShots
open Go.RowKit Go.Conc Go.Proofs.YtcbaiplamaopeaaW.PrintWords Go.Proofs.YtcbaiplamaopeaaW.PrintLast Go.Proofs.Ytcbaiplamaopeaa.PPost
set_option linter.unusedVariables false
set_option linter.unusedSimpArgs false

/-- The parts that were handed in are small. -/
def PB (R : RA) : Prop := ∀ x ∈ R.ps, partsP x ≤ 10000
/-- Behind one call to both. -/
def PlayTo (own : Nat → Nat) (w : World) (g gr tg tr nm : Nat) (w' : World) : Prop :=
  ∃ (own' : Nat → Nat) (S' : PS) (R' : RA) (bm c bw bp nm' s r : Nat) (pps : List PP) (pbuf : List (Nat × PP)) (A : Option Addr) (cr : Nat) (rows : List SC) (rps : List PP),
    Hid (PostAt own' w' g tg S' bm c bw bp nm' s r pps pbuf) ∧ Hid (RefAt own' w' gr tr R' A cr rows rps) ∧ Hid (RR S' R') ∧ Hid (PB R') ∧ Hid (Upd (fun t => t = tg ∨ Tg tr t) own w own' w') ∧ nm' ≤ nm + 2
theorem PB_abort {R : RA} (h : PB R) : PB R.abort.2.2 := by
  unfold RA.abort
  split
  · exact h
  · exact h
theorem PB_trig {R : RA} (h : PB R) : PB R.trig.2.2 := by
  unfold RA.trig
  split
  · exact h
  · split
    · exact h
    · intro x hx; cases hx
theorem PB_settle {R : RA} (h : PB R) (id : Int) (ok : Bool) : PB (R.settle id ok).2 := by
  unfold RA.settle
  split
  · exact h
  · exact h
set_option maxRecDepth 100000 in
set_option maxHeartbeats 16000000 in
theorem plays20_trig (own : Nat → Nat) (w : World) (g gr tg tr : Nat) (S : PS) (R : RA) (bm c bw bp nm s r : Nat) (pps : List PP) (pbuf : List (Nat × PP)) (A : Option Addr) (cr : Nat) (rows : List SC) (rps : List PP) (hP : PostAt own w g tg S bm c bw bp nm s r pps pbuf) (hR : RefAt own w gr tr R A cr rows rps) (hRR : RR S R) (hPB : PB R) (h0 : tg ≠ 0) (htr : tg < tr) (hnm : nm + 1 < maxLen) (o : S57) (last : Int) (A6 : Option Addr) (c6 : Nat) (A7 : Option Addr) (c7 : Nat) (A8 : Option Addr) (c8 : Nat) (hC6 : StC k103 own w A6 o.f5.f0.f1.length o.f5.f0.f1) (hl6 : o.f5.f0.f1.length ≤ c6) (hC7 : StC (Kd.slice 83 k83) own w A7 o.f5.f1.length o.f5.f1) (hl7 : o.f5.f1.length ≤ c7) (hC8 : StC k83 own w A8 o.f5.f2.length o.f5.f2) (hl8 : o.f5.f2.length ≤ c8) (hp : partsP o.f5 ≤ 10000) (hwf : wfI o.f3) : Calls Try.prog 20 #[.pointer (some ⟨g, 0, none⟩), .pointer (some ⟨gr, 0, none⟩), .agg #[.int .i64 1, .bool o.f1, .bool o.f2, .int .i64 o.f3, .int .i64 o.f4, .int .i64 o.f5.f0.f0, .slice A6 o.f5.f0.f1.length c6, .slice A7 o.f5.f1.length c7, .slice A8 o.f5.f2.length c8, .bool o.f6], .int .i64 last] w fun e w' => ∃ last', e = .returned (.tuple #[.int .i64 last', .bool true]) ∧ PlayTo own w g gr tg tr nm w' := by
  obtain ⟨own1, hown1⟩ : ∃ own1 : Nat → Nat, own1 = fresh own w 0 := ⟨_, rfl⟩
  have HX1 : Hid ((w.alloc (.cells #[.int .i64 1, .bool o.f1, .bool o.f2, .int .i64 o.f3, .int .i64 o.f4, .int .i64 o.f5.f0.f0, .slice A6 o.f5.f0.f1.length c6, .slice A7 o.f5.f1.length c7, .slice A8 o.f5.f2.length c8, .bool o.f6] 57)).heap[w.heap.size]? = some (.cells #[.int .i64 1, .bool o.f1, .bool o.f2, .int .i64 o.f3, .int .i64 o.f4, .int .i64 o.f5.f0.f0, .slice A6 o.f5.f0.f1.length c6, .slice A7 o.f5.f1.length c7, .slice A8 o.f5.f2.length c8, .bool o.f6] 57 (0, 0))) := Lib.hid (blk_new w _)
  have HB1 : Hid (Below w.heap.size w (w.alloc (.cells #[.int .i64 1, .bool o.f1, .bool o.f2, .int .i64 o.f3, .int .i64 o.f4, .int .i64 o.f5.f0.f0, .slice A6 o.f5.f0.f1.length c6, .slice A7 o.f5.f1.length c7, .slice A8 o.f5.f2.length c8, .bool o.f6] 57))) := Lib.hid ((Below.refl _ _).alloc (Nat.le_refl _) _)
  have hu1 : Upd (fun _ => False) own w own1 (w.alloc (.cells #[.int .i64 1, .bool o.f1, .bool o.f2, .int .i64 o.f3, .int .i64 o.f4, .int .i64 o.f5.f0.f0, .slice A6 o.f5.f0.f1.length c6, .slice A7 o.f5.f1.length c7, .slice A8 o.f5.f2.length c8, .bool o.f6] 57)) := by rw [hown1]; exact Upd.alloc _ 0
  have HP1 := Lib.hid (hP.upd (T := fun _ => False) (fun e => e) (fun e => e) hu1)
  have HR1 := Lib.hid (hR.upd (T := fun _ => False) (fun e => e) (fun _ _ _ e => e) hu1)
  have HU1 := Lib.hid hu1
  have HO1 : Hid (own1 w.heap.size = 0) := Lib.hid (by rw [hown1]; exact fresh_new (Nat.le_refl _))
  have HNUM := Lib.hid (number21 ⟨1, o.f1, o.f2, o.f3, o.f4, o.f5, o.f6⟩ last A6 c6 A7 c7 A8 c8 (w.alloc (.cells #[.int .i64 1, .bool o.f1, .bool o.f2, .int .i64 o.f3, .int .i64 o.f4, .int .i64 o.f5.f0.f0, .slice A6 o.f5.f0.f1.length c6, .slice A7 o.f5.f1.length c7, .slice A8 o.f5.f2.length c8, .bool o.f6] 57)) (Kd.C_below hC6.now HB1.out) hl6 (Kd.C_below hC7.now HB1.out) hl7 (Kd.C_below hC8.now HB1.out) hl8)
  have HWF := Lib.hid (numOf_wf (o := ⟨1, o.f1, o.f2, o.f3, o.f4, o.f5, o.f6⟩) (last := last) hwf)
  have HRR := Lib.hid hRR
  have HPB := Lib.hid hPB
  have H0 := Lib.hid h0
  have HTR := Lib.hid htr
  have HNM := Lib.hid hnm
  have HC6 := Lib.hid (hC6.upd (S := fun _ => False) (fun e => e) hu1)
  have HC7 := Lib.hid (hC7.upd (S := fun _ => False) (fun e => e) hu1)
  have HC8 := Lib.hid (hC8.upd (S := fun _ => False) (fun e => e) hu1)
  have HON : Hid (∀ k, w.heap.size ≤ k → own1 k = 0) := Lib.hid (fun k hk => by rw [hown1]; exact fresh_new hk)
  have Hp := Lib.hid hp
  have Hl6 := Lib.hid hl6
  clear hP hR hRR hPB h0 htr hnm hC6 hl6 hC7 hl7 hC8 hl8 hp hwf hown1 hu1
  go_enter Try.func20, Try.ntmps20
  go_upto_region 1 with (fail)
  generalize w.alloc (.cells #[.int .i64 1, .bool o.f1, .bool o.f2, .int .i64 o.f3, .int .i64 o.f4, .int .i64 o.f5.f0.f0, .slice A6 o.f5.f0.f1.length c6, .slice A7 o.f5.f1.length c7, .slice A8 o.f5.f2.length c8, .bool o.f6] 57) = w1 at *
  generalize hbo : w.heap.size = bo at HX1 HO1 ⊢
  clear hbo
  have a0 : w1.cell? ⟨bo, 0, none⟩ = some (.int .i64 1) := blk_at HX1.out 0 rfl
  have a1 : w1.cell? ⟨bo, 1, none⟩ = some (.bool o.f1) := blk_at HX1.out 1 rfl
  have a2 : w1.cell? ⟨bo, 2, none⟩ = some (.bool o.f2) := blk_at HX1.out 2 rfl
  have a3 : w1.cell? ⟨bo, 3, none⟩ = some (.int .i64 o.f3) := blk_at HX1.out 3 rfl
  have a4 : w1.cell? ⟨bo, 4, none⟩ = some (.int .i64 o.f4) := blk_at HX1.out 4 rfl
  have a5 : w1.cell? ⟨bo, 5, none⟩ = some (.int .i64 o.f5.f0.f0) := blk_at HX1.out 5 rfl
  have a6 : w1.cell? ⟨bo, 6, none⟩ = some (.slice A6 o.f5.f0.f1.length c6) := blk_at HX1.out 6 rfl
  have a7 : w1.cell? ⟨bo, 7, none⟩ = some (.slice A7 o.f5.f1.length c7) := blk_at HX1.out 7 rfl
  have a8 : w1.cell? ⟨bo, 8, none⟩ = some (.slice A8 o.f5.f2.length c8) := blk_at HX1.out 8 rfl
  have a9 : w1.cell? ⟨bo, 9, none⟩ = some (.bool o.f6) := blk_at HX1.out 9 rfl
  go_upto_region 2 with (go_at_call 21; refine HNUM.out.mono ?_; rintro e w2 ⟨rfl, hb⟩)
  clear a0 a1 a2 a3 a4 a5 a6 a7 a8 a9 HNUM
  generalize numOf ⟨1, o.f1, o.f2, o.f3, o.f4, o.f5, o.f6⟩ last = id at *
  have hu2 : Upd (fun _ => False) own1 w1 own1 w2 := Upd.of_below' hb.out (fun _ _ => rfl)
  have HP2 := Lib.hid (HP1.out.upd (T := fun _ => False) (fun e => e) (fun e => e) hu2)
  have HR2 := Lib.hid (HR1.out.upd (T := fun _ => False) (fun e => e) (fun _ _ _ e => e) hu2)
  have HU2 : Hid (Upd (fun _ => False) own w own1 w2) := Lib.hid (HU1.out.then hu2)
  have HX2 := Lib.hid (blk_below HX1.out hb.out)
  replace HC6 := Lib.hid (HC6.out.upd (S := fun _ => False) (fun e => e) hu2)
  replace HC7 := Lib.hid (HC7.out.upd (S := fun _ => False) (fun e => e) hu2)
  replace HC8 := Lib.hid (HC8.out.upd (S := fun _ => False) (fun e => e) hu2)
  have HB2 : Hid (Below w.heap.size w w2) := Lib.hid (HB1.out.trans (hb.out.mono HB1.out.size))
  have a0 : w2.cell? ⟨bo, 0, none⟩ = some (.int .i64 1) := blk_at HX2.out 0 rfl
  have a1 : w2.cell? ⟨bo, 1, none⟩ = some (.bool o.f1) := blk_at HX2.out 1 rfl
  have a2 : w2.cell? ⟨bo, 2, none⟩ = some (.bool o.f2) := blk_at HX2.out 2 rfl
  have a3 : w2.cell? ⟨bo, 3, none⟩ = some (.int .i64 o.f3) := blk_at HX2.out 3 rfl
  have a4 : w2.cell? ⟨bo, 4, none⟩ = some (.int .i64 o.f4) := blk_at HX2.out 4 rfl
  have a5 : w2.cell? ⟨bo, 5, none⟩ = some (.int .i64 o.f5.f0.f0) := blk_at HX2.out 5 rfl
  have a6 : w2.cell? ⟨bo, 6, none⟩ = some (.slice A6 o.f5.f0.f1.length c6) := blk_at HX2.out 6 rfl
  have a7 : w2.cell? ⟨bo, 7, none⟩ = some (.slice A7 o.f5.f1.length c7) := blk_at HX2.out 7 rfl
  have a8 : w2.cell? ⟨bo, 8, none⟩ = some (.slice A8 o.f5.f2.length c8) := blk_at HX2.out 8 rfl
  have a9 : w2.cell? ⟨bo, 9, none⟩ = some (.bool o.f6) := blk_at HX2.out 9 rfl
  clear hb hu2 HP1 HR1 HU1 HX1 HB1
  have HCA := trigger9 own1 w2 g tg S bm c bw bp nm s r pps pbuf HP2.out H0.out (by have := HNM.out; omega)
  have HAB := HRR.out.trig HP2.out.ok HR2.out.ok
  have HRR' := Lib.hid HAB.2.2
  rw [HAB.1, HAB.2.1] at HCA
  have HPB' : Hid (PB R.trig.2.2) := Lib.hid (PB_trig HPB.out)
  clear HAB
  obtain ⟨x1, hx1⟩ : ∃ x, x = R.trig.1 := ⟨_, rfl⟩
  obtain ⟨x2, hx2⟩ : ∃ x, x = R.trig.2.1 := ⟨_, rfl⟩
  rw [← hx1, ← hx2] at HCA
  have Hx1 := Lib.hid hx1
  have Hx2 := Lib.hid hx2
  clear hx1 hx2
  have k1 : (x1 == x1) = true := beq_self_eq_true _
  have k2 : (x2 == x2) = true := beq_self_eq_true _
  cases k3 : (x2 == 0)
  all_goals
    go_wp2_with (first
                    | (go_at_call 9; refine HCA.mono ?_; rintro e w3 ⟨rfl, hto⟩
                       obtain ⟨own3, bm3, c3, bw3, bp3, nm3, s3, r3, pps3, pbuf3, hP3, hU3, hn3⟩ := hto
                       have HR3 := Lib.hid (HR2.out.upd (T := (· = tg)) (by have := H0.out; omega) (fun t_ h1 h2 h3 => by have := HTR.out; omega) hU3)
                       have HP3 := Lib.hid hP3
                       have HU3 : Hid (Upd (fun t_ => t_ = tg ∨ Tg tr t_) own w own3 w3) := Lib.hid ((HU2.out.mono (fun _ h => h.elim)).then (hU3.mono (fun _ h => .inl h)))
                       have HX3 : Hid (w3.heap[bo]? = _) := Lib.hid (hU3.blk HX2.out (by rw [HO1.out]; have := H0.out; omega))
                       have Hn3 : Hid (nm3 ≤ nm + 2) := Lib.hid (by omega)
                       clear hP3 hU3 hn3
                       have HRA := trigger34 own3 w3 gr tr R A cr rows rps HR3.out
                       rw [← Hx1.out, ← Hx2.out] at HRA)
                    | (go_at_call 34; refine HRA.mono ?_; rintro e w4 ⟨rfl, hto⟩
                       obtain ⟨own4, A4, cr4, rows4, rps4, hR4, hU4⟩ := hto
                       have HP4 := Lib.hid (HP3.out.upd (T := Tg tr) (by have := HTR.out; unfold Tg; omega) (by have := HTR.out; unfold Tg; omega) hU4)
                       have HR4 := Lib.hid hR4
                       have HU4 : Hid (Upd (fun t_ => t_ = tg ∨ Tg tr t_) own w own4 w4) := Lib.hid (HU3.out.then (hU4.mono (fun _ h => .inr h)))
                       clear hR4 hU4))
    go_ret2
    exact ⟨_, rfl, ⟨own4, _, _, bm3, c3, bw3, bp3, nm3, s3, r3, pps3, pbuf3, A4, cr4, rows4, rps4, HP4, HR4, HRR', HPB', HU4, Hn3.out⟩⟩
set_option maxRecDepth 100000 in
set_option maxHeartbeats 16000000 in
theorem plays20_abort (own : Nat → Nat) (w : World) (g gr tg tr : Nat) (S : PS) (R : RA) (bm c bw bp nm s r : Nat) (pps : List PP) (pbuf : List (Nat × PP)) (A : Option Addr) (cr : Nat) (rows : List SC) (rps : List PP) (hP : PostAt own w g tg S bm c bw bp nm s r pps pbuf) (hR : RefAt own w gr tr R A cr rows rps) (hRR : RR S R) (hPB : PB R) (h0 : tg ≠ 0) (htr : tg < tr) (hnm : nm + 1 < maxLen) (o : S57) (last : Int) (A6 : Option Addr) (c6 : Nat) (A7 : Option Addr) (c7 : Nat) (A8 : Option Addr) (c8 : Nat) (hC6 : StC k103 own w A6 o.f5.f0.f1.length o.f5.f0.f1) (hl6 : o.f5.f0.f1.length ≤ c6) (hC7 : StC (Kd.slice 83 k83) own w A7 o.f5.f1.length o.f5.f1) (hl7 : o.f5.f1.length ≤ c7) (hC8 : StC k83 own w A8 o.f5.f2.length o.f5.f2) (hl8 : o.f5.f2.length ≤ c8) (hp : partsP o.f5 ≤ 10000) (hwf : wfI o.f3) : Calls Try.prog 20 #[.pointer (some ⟨g, 0, none⟩), .pointer (some ⟨gr, 0, none⟩), .agg #[.int .i64 4, .bool o.f1, .bool o.f2, .int .i64 o.f3, .int .i64 o.f4, .int .i64 o.f5.f0.f0, .slice A6 o.f5.f0.f1.length c6, .slice A7 o.f5.f1.length c7, .slice A8 o.f5.f2.length c8, .bool o.f6], .int .i64 last] w fun e w' => ∃ last', e = .returned (.tuple #[.int .i64 last', .bool true]) ∧ PlayTo own w g gr tg tr nm w' := by
  obtain ⟨own1, hown1⟩ : ∃ own1 : Nat → Nat, own1 = fresh own w 0 := ⟨_, rfl⟩
  have HX1 : Hid ((w.alloc (.cells #[.int .i64 4, .bool o.f1, .bool o.f2, .int .i64 o.f3, .int .i64 o.f4, .int .i64 o.f5.f0.f0, .slice A6 o.f5.f0.f1.length c6, .slice A7 o.f5.f1.length c7, .slice A8 o.f5.f2.length c8, .bool o.f6] 57)).heap[w.heap.size]? = some (.cells #[.int .i64 4, .bool o.f1, .bool o.f2, .int .i64 o.f3, .int .i64 o.f4, .int .i64 o.f5.f0.f0, .slice A6 o.f5.f0.f1.length c6, .slice A7 o.f5.f1.length c7, .slice A8 o.f5.f2.length c8, .bool o.f6] 57 (0, 0))) := Lib.hid (blk_new w _)
  have HB1 : Hid (Below w.heap.size w (w.alloc (.cells #[.int .i64 4, .bool o.f1, .bool o.f2, .int .i64 o.f3, .int .i64 o.f4, .int .i64 o.f5.f0.f0, .slice A6 o.f5.f0.f1.length c6, .slice A7 o.f5.f1.length c7, .slice A8 o.f5.f2.length c8, .bool o.f6] 57))) := Lib.hid ((Below.refl _ _).alloc (Nat.le_refl _) _)
  have hu1 : Upd (fun _ => False) own w own1 (w.alloc (.cells #[.int .i64 4, .bool o.f1, .bool o.f2, .int .i64 o.f3, .int .i64 o.f4, .int .i64 o.f5.f0.f0, .slice A6 o.f5.f0.f1.length c6, .slice A7 o.f5.f1.length c7, .slice A8 o.f5.f2.length c8, .bool o.f6] 57)) := by rw [hown1]; exact Upd.alloc _ 0
  have HP1 := Lib.hid (hP.upd (T := fun _ => False) (fun e => e) (fun e => e) hu1)
  have HR1 := Lib.hid (hR.upd (T := fun _ => False) (fun e => e) (fun _ _ _ e => e) hu1)
  have HU1 := Lib.hid hu1
  have HO1 : Hid (own1 w.heap.size = 0) := Lib.hid (by rw [hown1]; exact fresh_new (Nat.le_refl _))
  have HNUM := Lib.hid (number21 ⟨4, o.f1, o.f2, o.f3, o.f4, o.f5, o.f6⟩ last A6 c6 A7 c7 A8 c8 (w.alloc (.cells #[.int .i64 4, .bool o.f1, .bool o.f2, .int .i64 o.f3, .int .i64 o.f4, .int .i64 o.f5.f0.f0, .slice A6 o.f5.f0.f1.length c6, .slice A7 o.f5.f1.length c7, .slice A8 o.f5.f2.length c8, .bool o.f6] 57)) (Kd.C_below hC6.now HB1.out) hl6 (Kd.C_below hC7.now HB1.out) hl7 (Kd.C_below hC8.now HB1.out) hl8)
  have HWF := Lib.hid (numOf_wf (o := ⟨4, o.f1, o.f2, o.f3, o.f4, o.f5, o.f6⟩) (last := last) hwf)
  have HRR := Lib.hid hRR
  have HPB := Lib.hid hPB
  have H0 := Lib.hid h0
  have HTR := Lib.hid htr
  have HNM := Lib.hid hnm
  have HC6 := Lib.hid (hC6.upd (S := fun _ => False) (fun e => e) hu1)
  have HC7 := Lib.hid (hC7.upd (S := fun _ => False) (fun e => e) hu1)
  have HC8 := Lib.hid (hC8.upd (S := fun _ => False) (fun e => e) hu1)
  have HON : Hid (∀ k, w.heap.size ≤ k → own1 k = 0) := Lib.hid (fun k hk => by rw [hown1]; exact fresh_new hk)
  have Hp := Lib.hid hp
  have Hl6 := Lib.hid hl6
  clear hP hR hRR hPB h0 htr hnm hC6 hl6 hC7 hl7 hC8 hl8 hp hwf hown1 hu1
  go_enter Try.func20, Try.ntmps20
  go_upto_region 1 with (fail)
  generalize w.alloc (.cells #[.int .i64 4, .bool o.f1, .bool o.f2, .int .i64 o.f3, .int .i64 o.f4, .int .i64 o.f5.f0.f0, .slice A6 o.f5.f0.f1.length c6, .slice A7 o.f5.f1.length c7, .slice A8 o.f5.f2.length c8, .bool o.f6] 57) = w1 at *
  generalize hbo : w.heap.size = bo at HX1 HO1 ⊢
  clear hbo
  have a0 : w1.cell? ⟨bo, 0, none⟩ = some (.int .i64 4) := blk_at HX1.out 0 rfl
  have a1 : w1.cell? ⟨bo, 1, none⟩ = some (.bool o.f1) := blk_at HX1.out 1 rfl
  have a2 : w1.cell? ⟨bo, 2, none⟩ = some (.bool o.f2) := blk_at HX1.out 2 rfl
  have a3 : w1.cell? ⟨bo, 3, none⟩ = some (.int .i64 o.f3) := blk_at HX1.out 3 rfl
  have a4 : w1.cell? ⟨bo, 4, none⟩ = some (.int .i64 o.f4) := blk_at HX1.out 4 rfl
  have a5 : w1.cell? ⟨bo, 5, none⟩ = some (.int .i64 o.f5.f0.f0) := blk_at HX1.out 5 rfl
  have a6 : w1.cell? ⟨bo, 6, none⟩ = some (.slice A6 o.f5.f0.f1.length c6) := blk_at HX1.out 6 rfl
  have a7 : w1.cell? ⟨bo, 7, none⟩ = some (.slice A7 o.f5.f1.length c7) := blk_at HX1.out 7 rfl
  have a8 : w1.cell? ⟨bo, 8, none⟩ = some (.slice A8 o.f5.f2.length c8) := blk_at HX1.out 8 rfl
  have a9 : w1.cell? ⟨bo, 9, none⟩ = some (.bool o.f6) := blk_at HX1.out 9 rfl
  go_upto_region 2 with (go_at_call 21; refine HNUM.out.mono ?_; rintro e w2 ⟨rfl, hb⟩)
  clear a0 a1 a2 a3 a4 a5 a6 a7 a8 a9 HNUM
  generalize numOf ⟨4, o.f1, o.f2, o.f3, o.f4, o.f5, o.f6⟩ last = id at *
  have hu2 : Upd (fun _ => False) own1 w1 own1 w2 := Upd.of_below' hb.out (fun _ _ => rfl)
  have HP2 := Lib.hid (HP1.out.upd (T := fun _ => False) (fun e => e) (fun e => e) hu2)
  have HR2 := Lib.hid (HR1.out.upd (T := fun _ => False) (fun e => e) (fun _ _ _ e => e) hu2)
  have HU2 : Hid (Upd (fun _ => False) own w own1 w2) := Lib.hid (HU1.out.then hu2)
  have HX2 := Lib.hid (blk_below HX1.out hb.out)
  replace HC6 := Lib.hid (HC6.out.upd (S := fun _ => False) (fun e => e) hu2)
  replace HC7 := Lib.hid (HC7.out.upd (S := fun _ => False) (fun e => e) hu2)
  replace HC8 := Lib.hid (HC8.out.upd (S := fun _ => False) (fun e => e) hu2)
  have HB2 : Hid (Below w.heap.size w w2) := Lib.hid (HB1.out.trans (hb.out.mono HB1.out.size))
  have a0 : w2.cell? ⟨bo, 0, none⟩ = some (.int .i64 4) := blk_at HX2.out 0 rfl
  have a1 : w2.cell? ⟨bo, 1, none⟩ = some (.bool o.f1) := blk_at HX2.out 1 rfl
  have a2 : w2.cell? ⟨bo, 2, none⟩ = some (.bool o.f2) := blk_at HX2.out 2 rfl
  have a3 : w2.cell? ⟨bo, 3, none⟩ = some (.int .i64 o.f3) := blk_at HX2.out 3 rfl
  have a4 : w2.cell? ⟨bo, 4, none⟩ = some (.int .i64 o.f4) := blk_at HX2.out 4 rfl
  have a5 : w2.cell? ⟨bo, 5, none⟩ = some (.int .i64 o.f5.f0.f0) := blk_at HX2.out 5 rfl
  have a6 : w2.cell? ⟨bo, 6, none⟩ = some (.slice A6 o.f5.f0.f1.length c6) := blk_at HX2.out 6 rfl
  have a7 : w2.cell? ⟨bo, 7, none⟩ = some (.slice A7 o.f5.f1.length c7) := blk_at HX2.out 7 rfl
  have a8 : w2.cell? ⟨bo, 8, none⟩ = some (.slice A8 o.f5.f2.length c8) := blk_at HX2.out 8 rfl
  have a9 : w2.cell? ⟨bo, 9, none⟩ = some (.bool o.f6) := blk_at HX2.out 9 rfl
  clear hb hu2 HP1 HR1 HU1 HX1 HB1
  have HCA := abort22 own1 w2 g tg S bm c bw bp nm s r pps pbuf HP2.out H0.out (by have := HNM.out; omega)
  have HAB := HRR.out.abort HP2.out.ok HR2.out.ok
  have HRR' := Lib.hid HAB.2.2
  rw [HAB.1, HAB.2.1] at HCA
  have HPB' : Hid (PB R.abort.2.2) := Lib.hid (PB_abort HPB.out)
  clear HAB
  obtain ⟨x1, hx1⟩ : ∃ x, x = R.abort.1 := ⟨_, rfl⟩
  obtain ⟨x2, hx2⟩ : ∃ x, x = R.abort.2.1 := ⟨_, rfl⟩
  rw [← hx1, ← hx2] at HCA
  have Hx1 := Lib.hid hx1
  have Hx2 := Lib.hid hx2
  clear hx1 hx2
  have k1 : (x1 == x1) = true := beq_self_eq_true _
  have k2 : (x2 == x2) = true := beq_self_eq_true _
  go_wp2_with (first
                  | (go_at_call 22; refine HCA.mono ?_; rintro e w3 ⟨rfl, hto⟩
                     obtain ⟨own3, bm3, c3, bw3, bp3, nm3, s3, r3, pps3, pbuf3, hP3, hU3, hn3⟩ := hto
                     have HR3 := Lib.hid (HR2.out.upd (T := (· = tg)) (by have := H0.out; omega) (fun t_ h1 h2 h3 => by have := HTR.out; omega) hU3)
                     have HP3 := Lib.hid hP3
                     have HU3 : Hid (Upd (fun t_ => t_ = tg ∨ Tg tr t_) own w own3 w3) := Lib.hid ((HU2.out.mono (fun _ h => h.elim)).then (hU3.mono (fun _ h => .inl h)))
                     have HX3 : Hid (w3.heap[bo]? = _) := Lib.hid (hU3.blk HX2.out (by rw [HO1.out]; have := H0.out; omega))
                     have Hn3 : Hid (nm3 ≤ nm + 2) := Lib.hid (by omega)
                     clear hP3 hU3 hn3
                     have HRA := abort39 own3 w3 gr tr R A cr rows rps HR3.out
                     rw [← Hx1.out, ← Hx2.out] at HRA)
                  | (go_at_call 39; refine HRA.mono ?_; rintro e w4 ⟨rfl, hto⟩
                     obtain ⟨own4, A4, cr4, rows4, rps4, hR4, hU4⟩ := hto
                     have HP4 := Lib.hid (HP3.out.upd (T := Tg tr) (by have := HTR.out; unfold Tg; omega) (by have := HTR.out; unfold Tg; omega) hU4)
                     have HR4 := Lib.hid hR4
                     have HU4 : Hid (Upd (fun t_ => t_ = tg ∨ Tg tr t_) own w own4 w4) := Lib.hid (HU3.out.then (hU4.mono (fun _ h => .inr h)))
                     clear hR4 hU4))
  go_ret2
  exact ⟨_, rfl, ⟨own4, _, _, bm3, c3, bw3, bp3, nm3, s3, r3, pps3, pbuf3, A4, cr4, rows4, rps4, HP4, HR4, HRR', HPB', HU4, Hn3.out⟩⟩
set_option maxRecDepth 100000 in
set_option maxHeartbeats 16000000 in
theorem plays20_settle (own : Nat → Nat) (w : World) (g gr tg tr : Nat) (S : PS) (R : RA) (bm c bw bp nm s r : Nat) (pps : List PP) (pbuf : List (Nat × PP)) (A : Option Addr) (cr : Nat) (rows : List SC) (rps : List PP) (hP : PostAt own w g tg S bm c bw bp nm s r pps pbuf) (hR : RefAt own w gr tr R A cr rows rps) (hRR : RR S R) (hPB : PB R) (h0 : tg ≠ 0) (htr : tg < tr) (hnm : nm + 1 < maxLen) (o : S57) (last : Int) (A6 : Option Addr) (c6 : Nat) (A7 : Option Addr) (c7 : Nat) (A8 : Option Addr) (c8 : Nat) (hC6 : StC k103 own w A6 o.f5.f0.f1.length o.f5.f0.f1) (hl6 : o.f5.f0.f1.length ≤ c6) (hC7 : StC (Kd.slice 83 k83) own w A7 o.f5.f1.length o.f5.f1) (hl7 : o.f5.f1.length ≤ c7) (hC8 : StC k83 own w A8 o.f5.f2.length o.f5.f2) (hl8 : o.f5.f2.length ≤ c8) (hp : partsP o.f5 ≤ 10000) (hwf : wfI o.f3) : Calls Try.prog 20 #[.pointer (some ⟨g, 0, none⟩), .pointer (some ⟨gr, 0, none⟩), .agg #[.int .i64 5, .bool o.f1, .bool o.f2, .int .i64 o.f3, .int .i64 o.f4, .int .i64 o.f5.f0.f0, .slice A6 o.f5.f0.f1.length c6, .slice A7 o.f5.f1.length c7, .slice A8 o.f5.f2.length c8, .bool o.f6], .int .i64 last] w fun e w' => ∃ last', e = .returned (.tuple #[.int .i64 last', .bool true]) ∧ PlayTo own w g gr tg tr nm w' := by
  obtain ⟨own1, hown1⟩ : ∃ own1 : Nat → Nat, own1 = fresh own w 0 := ⟨_, rfl⟩
  have HX1 : Hid ((w.alloc (.cells #[.int .i64 5, .bool o.f1, .bool o.f2, .int .i64 o.f3, .int .i64 o.f4, .int .i64 o.f5.f0.f0, .slice A6 o.f5.f0.f1.length c6, .slice A7 o.f5.f1.length c7, .slice A8 o.f5.f2.length c8, .bool o.f6] 57)).heap[w.heap.size]? = some (.cells #[.int .i64 5, .bool o.f1, .bool o.f2, .int .i64 o.f3, .int .i64 o.f4, .int .i64 o.f5.f0.f0, .slice A6 o.f5.f0.f1.length c6, .slice A7 o.f5.f1.length c7, .slice A8 o.f5.f2.length c8, .bool o.f6] 57 (0, 0))) := Lib.hid (blk_new w _)
  have HB1 : Hid (Below w.heap.size w (w.alloc (.cells #[.int .i64 5, .bool o.f1, .bool o.f2, .int .i64 o.f3, .int .i64 o.f4, .int .i64 o.f5.f0.f0, .slice A6 o.f5.f0.f1.length c6, .slice A7 o.f5.f1.length c7, .slice A8 o.f5.f2.length c8, .bool o.f6] 57))) := Lib.hid ((Below.refl _ _).alloc (Nat.le_refl _) _)
  have hu1 : Upd (fun _ => False) own w own1 (w.alloc (.cells #[.int .i64 5, .bool o.f1, .bool o.f2, .int .i64 o.f3, .int .i64 o.f4, .int .i64 o.f5.f0.f0, .slice A6 o.f5.f0.f1.length c6, .slice A7 o.f5.f1.length c7, .slice A8 o.f5.f2.length c8, .bool o.f6] 57)) := by rw [hown1]; exact Upd.alloc _ 0
  have HP1 := Lib.hid (hP.upd (T := fun _ => False) (fun e => e) (fun e => e) hu1)
  have HR1 := Lib.hid (hR.upd (T := fun _ => False) (fun e => e) (fun _ _ _ e => e) hu1)
  have HU1 := Lib.hid hu1
  have HO1 : Hid (own1 w.heap.size = 0) := Lib.hid (by rw [hown1]; exact fresh_new (Nat.le_refl _))
  have HNUM := Lib.hid (number21 ⟨5, o.f1, o.f2, o.f3, o.f4, o.f5, o.f6⟩ last A6 c6 A7 c7 A8 c8 (w.alloc (.cells #[.int .i64 5, .bool o.f1, .bool o.f2, .int .i64 o.f3, .int .i64 o.f4, .int .i64 o.f5.f0.f0, .slice A6 o.f5.f0.f1.length c6, .slice A7 o.f5.f1.length c7, .slice A8 o.f5.f2.length c8, .bool o.f6] 57)) (Kd.C_below hC6.now HB1.out) hl6 (Kd.C_below hC7.now HB1.out) hl7 (Kd.C_below hC8.now HB1.out) hl8)
  have HWF := Lib.hid (numOf_wf (o := ⟨5, o.f1, o.f2, o.f3, o.f4, o.f5, o.f6⟩) (last := last) hwf)
  have HRR := Lib.hid hRR
  have HPB := Lib.hid hPB
  have H0 := Lib.hid h0
  have HTR := Lib.hid htr
  have HNM := Lib.hid hnm
  have HC6 := Lib.hid (hC6.upd (S := fun _ => False) (fun e => e) hu1)
  have HC7 := Lib.hid (hC7.upd (S := fun _ => False) (fun e => e) hu1)
  have HC8 := Lib.hid (hC8.upd (S := fun _ => False) (fun e => e) hu1)
  have HON : Hid (∀ k, w.heap.size ≤ k → own1 k = 0) := Lib.hid (fun k hk => by rw [hown1]; exact fresh_new hk)
  have Hp := Lib.hid hp
  have Hl6 := Lib.hid hl6
  clear hP hR hRR hPB h0 htr hnm hC6 hl6 hC7 hl7 hC8 hl8 hp hwf hown1 hu1
  go_enter Try.func20, Try.ntmps20
  go_upto_region 1 with (fail)
  generalize w.alloc (.cells #[.int .i64 5, .bool o.f1, .bool o.f2, .int .i64 o.f3, .int .i64 o.f4, .int .i64 o.f5.f0.f0, .slice A6 o.f5.f0.f1.length c6, .slice A7 o.f5.f1.length c7, .slice A8 o.f5.f2.length c8, .bool o.f6] 57) = w1 at *
  generalize hbo : w.heap.size = bo at HX1 HO1 ⊢
  clear hbo
  have a0 : w1.cell? ⟨bo, 0, none⟩ = some (.int .i64 5) := blk_at HX1.out 0 rfl
  have a1 : w1.cell? ⟨bo, 1, none⟩ = some (.bool o.f1) := blk_at HX1.out 1 rfl
  have a2 : w1.cell? ⟨bo, 2, none⟩ = some (.bool o.f2) := blk_at HX1.out 2 rfl
  have a3 : w1.cell? ⟨bo, 3, none⟩ = some (.int .i64 o.f3) := blk_at HX1.out 3 rfl
  have a4 : w1.cell? ⟨bo, 4, none⟩ = some (.int .i64 o.f4) := blk_at HX1.out 4 rfl
  have a5 : w1.cell? ⟨bo, 5, none⟩ = some (.int .i64 o.f5.f0.f0) := blk_at HX1.out 5 rfl
  have a6 : w1.cell? ⟨bo, 6, none⟩ = some (.slice A6 o.f5.f0.f1.length c6) := blk_at HX1.out 6 rfl
  have a7 : w1.cell? ⟨bo, 7, none⟩ = some (.slice A7 o.f5.f1.length c7) := blk_at HX1.out 7 rfl
  have a8 : w1.cell? ⟨bo, 8, none⟩ = some (.slice A8 o.f5.f2.length c8) := blk_at HX1.out 8 rfl
  have a9 : w1.cell? ⟨bo, 9, none⟩ = some (.bool o.f6) := blk_at HX1.out 9 rfl
  go_upto_region 2 with (go_at_call 21; refine HNUM.out.mono ?_; rintro e w2 ⟨rfl, hb⟩)
  clear a0 a1 a2 a3 a4 a5 a6 a7 a8 a9 HNUM
  generalize numOf ⟨5, o.f1, o.f2, o.f3, o.f4, o.f5, o.f6⟩ last = id at *
  have hu2 : Upd (fun _ => False) own1 w1 own1 w2 := Upd.of_below' hb.out (fun _ _ => rfl)
  have HP2 := Lib.hid (HP1.out.upd (T := fun _ => False) (fun e => e) (fun e => e) hu2)
  have HR2 := Lib.hid (HR1.out.upd (T := fun _ => False) (fun e => e) (fun _ _ _ e => e) hu2)
  have HU2 : Hid (Upd (fun _ => False) own w own1 w2) := Lib.hid (HU1.out.then hu2)
  have HX2 := Lib.hid (blk_below HX1.out hb.out)
  replace HC6 := Lib.hid (HC6.out.upd (S := fun _ => False) (fun e => e) hu2)
  replace HC7 := Lib.hid (HC7.out.upd (S := fun _ => False) (fun e => e) hu2)
  replace HC8 := Lib.hid (HC8.out.upd (S := fun _ => False) (fun e => e) hu2)
  have HB2 : Hid (Below w.heap.size w w2) := Lib.hid (HB1.out.trans (hb.out.mono HB1.out.size))
  have a0 : w2.cell? ⟨bo, 0, none⟩ = some (.int .i64 5) := blk_at HX2.out 0 rfl
  have a1 : w2.cell? ⟨bo, 1, none⟩ = some (.bool o.f1) := blk_at HX2.out 1 rfl
  have a2 : w2.cell? ⟨bo, 2, none⟩ = some (.bool o.f2) := blk_at HX2.out 2 rfl
  have a3 : w2.cell? ⟨bo, 3, none⟩ = some (.int .i64 o.f3) := blk_at HX2.out 3 rfl
  have a4 : w2.cell? ⟨bo, 4, none⟩ = some (.int .i64 o.f4) := blk_at HX2.out 4 rfl
  have a5 : w2.cell? ⟨bo, 5, none⟩ = some (.int .i64 o.f5.f0.f0) := blk_at HX2.out 5 rfl
  have a6 : w2.cell? ⟨bo, 6, none⟩ = some (.slice A6 o.f5.f0.f1.length c6) := blk_at HX2.out 6 rfl
  have a7 : w2.cell? ⟨bo, 7, none⟩ = some (.slice A7 o.f5.f1.length c7) := blk_at HX2.out 7 rfl
  have a8 : w2.cell? ⟨bo, 8, none⟩ = some (.slice A8 o.f5.f2.length c8) := blk_at HX2.out 8 rfl
  have a9 : w2.cell? ⟨bo, 9, none⟩ = some (.bool o.f6) := blk_at HX2.out 9 rfl
  clear hb hu2 HP1 HR1 HU1 HX1 HB1
  have HCA := settle23 own1 w2 g tg S bm c bw bp nm s r pps pbuf HP2.out H0.out id o.f6 HWF.out HNM.out
  have HAB := HRR.out.settle HP2.out.ok HR2.out.ok id o.f6
  have HRR' := Lib.hid HAB.2
  rw [HAB.1] at HCA
  have HPB' : Hid (PB (R.settle id o.f6).2) := Lib.hid (PB_settle HPB.out id o.f6)
  clear HAB
  obtain ⟨x1, hx1⟩ : ∃ x, x = (R.settle id o.f6).1 := ⟨_, rfl⟩
  rw [← hx1] at HCA
  have Hx1 := Lib.hid hx1
  clear hx1
  have k1 : (x1 == x1) = true := beq_self_eq_true _
  go_wp2_with (first
                  | (go_at_call 23; refine HCA.mono ?_; rintro e w3 ⟨rfl, hto⟩
                     obtain ⟨own3, bm3, c3, bw3, bp3, nm3, s3, r3, pps3, pbuf3, hP3, hU3, hn3⟩ := hto
                     have HR3 := Lib.hid (HR2.out.upd (T := (· = tg)) (by have := H0.out; omega) (fun t_ h1 h2 h3 => by have := HTR.out; omega) hU3)
                     have HP3 := Lib.hid hP3
                     have HU3 : Hid (Upd (fun t_ => t_ = tg ∨ Tg tr t_) own w own3 w3) := Lib.hid ((HU2.out.mono (fun _ h => h.elim)).then (hU3.mono (fun _ h => .inl h)))
                     have HX3 : Hid (w3.heap[bo]? = _) := Lib.hid (hU3.blk HX2.out (by rw [HO1.out]; have := H0.out; omega))
                     have Hn3 : Hid (nm3 ≤ nm + 2) := Lib.hid (by omega)
                     clear hP3 hU3 hn3
                     have d9 : w3.cell? ⟨bo, 9, none⟩ = some (.bool o.f6) := blk_at HX3.out 9 rfl
                     have HRA := settle40 own3 w3 gr tr R A cr rows rps HR3.out id o.f6
                     rw [← Hx1.out] at HRA)
                  | (go_at_call 40; refine HRA.mono ?_; rintro e w4 ⟨rfl, hto⟩
                     obtain ⟨own4, A4, cr4, rows4, rps4, hR4, hU4⟩ := hto
                     have HP4 := Lib.hid (HP3.out.upd (T := Tg tr) (by have := HTR.out; unfold Tg; omega) (by have := HTR.out; unfold Tg; omega) hU4)
                     have HR4 := Lib.hid hR4
                     have HU4 : Hid (Upd (fun t_ => t_ = tg ∨ Tg tr t_) own w own4 w4) := Lib.hid (HU3.out.then (hU4.mono (fun _ h => .inr h)))
                     clear hR4 hU4))
  go_ret2
  exact ⟨_, rfl, ⟨own4, _, _, bm3, c3, bw3, bp3, nm3, s3, r3, pps3, pbuf3, A4, cr4, rows4, rps4, HP4, HR4, HRR', HPB', HU4, Hn3.out⟩⟩
set_option maxRecDepth 100000 in
set_option maxHeartbeats 16000000 in
theorem plays20_status (own : Nat → Nat) (w : World) (g gr tg tr : Nat) (S : PS) (R : RA) (bm c bw bp nm s r : Nat) (pps : List PP) (pbuf : List (Nat × PP)) (A : Option Addr) (cr : Nat) (rows : List SC) (rps : List PP) (hP : PostAt own w g tg S bm c bw bp nm s r pps pbuf) (hR : RefAt own w gr tr R A cr rows rps) (hRR : RR S R) (hPB : PB R) (h0 : tg ≠ 0) (htr : tg < tr) (hnm : nm + 1 < maxLen) (o : S57) (last : Int) (A6 : Option Addr) (c6 : Nat) (A7 : Option Addr) (c7 : Nat) (A8 : Option Addr) (c8 : Nat) (hC6 : StC k103 own w A6 o.f5.f0.f1.length o.f5.f0.f1) (hl6 : o.f5.f0.f1.length ≤ c6) (hC7 : StC (Kd.slice 83 k83) own w A7 o.f5.f1.length o.f5.f1) (hl7 : o.f5.f1.length ≤ c7) (hC8 : StC k83 own w A8 o.f5.f2.length o.f5.f2) (hl8 : o.f5.f2.length ≤ c8) (hp : partsP o.f5 ≤ 10000) (hwf : wfI o.f3) : Calls Try.prog 20 #[.pointer (some ⟨g, 0, none⟩), .pointer (some ⟨gr, 0, none⟩), .agg #[.int .i64 6, .bool o.f1, .bool o.f2, .int .i64 o.f3, .int .i64 o.f4, .int .i64 o.f5.f0.f0, .slice A6 o.f5.f0.f1.length c6, .slice A7 o.f5.f1.length c7, .slice A8 o.f5.f2.length c8, .bool o.f6], .int .i64 last] w fun e w' => ∃ last', e = .returned (.tuple #[.int .i64 last', .bool true]) ∧ PlayTo own w g gr tg tr nm w' := by
  obtain ⟨own1, hown1⟩ : ∃ own1 : Nat → Nat, own1 = fresh own w 0 := ⟨_, rfl⟩
  have HX1 : Hid ((w.alloc (.cells #[.int .i64 6, .bool o.f1, .bool o.f2, .int .i64 o.f3, .int .i64 o.f4, .int .i64 o.f5.f0.f0, .slice A6 o.f5.f0.f1.length c6, .slice A7 o.f5.f1.length c7, .slice A8 o.f5.f2.length c8, .bool o.f6] 57)).heap[w.heap.size]? = some (.cells #[.int .i64 6, .bool o.f1, .bool o.f2, .int .i64 o.f3, .int .i64 o.f4, .int .i64 o.f5.f0.f0, .slice A6 o.f5.f0.f1.length c6, .slice A7 o.f5.f1.length c7, .slice A8 o.f5.f2.length c8, .bool o.f6] 57 (0, 0))) := Lib.hid (blk_new w _)
  have HB1 : Hid (Below w.heap.size w (w.alloc (.cells #[.int .i64 6, .bool o.f1, .bool o.f2, .int .i64 o.f3, .int .i64 o.f4, .int .i64 o.f5.f0.f0, .slice A6 o.f5.f0.f1.length c6, .slice A7 o.f5.f1.length c7, .slice A8 o.f5.f2.length c8, .bool o.f6] 57))) := Lib.hid ((Below.refl _ _).alloc (Nat.le_refl _) _)
  have hu1 : Upd (fun _ => False) own w own1 (w.alloc (.cells #[.int .i64 6, .bool o.f1, .bool o.f2, .int .i64 o.f3, .int .i64 o.f4, .int .i64 o.f5.f0.f0, .slice A6 o.f5.f0.f1.length c6, .slice A7 o.f5.f1.length c7, .slice A8 o.f5.f2.length c8, .bool o.f6] 57)) := by rw [hown1]; exact Upd.alloc _ 0
  have HP1 := Lib.hid (hP.upd (T := fun _ => False) (fun e => e) (fun e => e) hu1)
  have HR1 := Lib.hid (hR.upd (T := fun _ => False) (fun e => e) (fun _ _ _ e => e) hu1)
  have HU1 := Lib.hid hu1
  have HO1 : Hid (own1 w.heap.size = 0) := Lib.hid (by rw [hown1]; exact fresh_new (Nat.le_refl _))
  have HNUM := Lib.hid (number21 ⟨6, o.f1, o.f2, o.f3, o.f4, o.f5, o.f6⟩ last A6 c6 A7 c7 A8 c8 (w.alloc (.cells #[.int .i64 6, .bool o.f1, .bool o.f2, .int .i64 o.f3, .int .i64 o.f4, .int .i64 o.f5.f0.f0, .slice A6 o.f5.f0.f1.length c6, .slice A7 o.f5.f1.length c7, .slice A8 o.f5.f2.length c8, .bool o.f6] 57)) (Kd.C_below hC6.now HB1.out) hl6 (Kd.C_below hC7.now HB1.out) hl7 (Kd.C_below hC8.now HB1.out) hl8)
  have HWF := Lib.hid (numOf_wf (o := ⟨6, o.f1, o.f2, o.f3, o.f4, o.f5, o.f6⟩) (last := last) hwf)
  have HRR := Lib.hid hRR
  have HPB := Lib.hid hPB
  have H0 := Lib.hid h0
  have HTR := Lib.hid htr
  have HNM := Lib.hid hnm
  have HC6 := Lib.hid (hC6.upd (S := fun _ => False) (fun e => e) hu1)
  have HC7 := Lib.hid (hC7.upd (S := fun _ => False) (fun e => e) hu1)
  have HC8 := Lib.hid (hC8.upd (S := fun _ => False) (fun e => e) hu1)
  have HON : Hid (∀ k, w.heap.size ≤ k → own1 k = 0) := Lib.hid (fun k hk => by rw [hown1]; exact fresh_new hk)
  have Hp := Lib.hid hp
  have Hl6 := Lib.hid hl6
  clear hP hR hRR hPB h0 htr hnm hC6 hl6 hC7 hl7 hC8 hl8 hp hwf hown1 hu1
  go_enter Try.func20, Try.ntmps20
  go_upto_region 1 with (fail)
  generalize w.alloc (.cells #[.int .i64 6, .bool o.f1, .bool o.f2, .int .i64 o.f3, .int .i64 o.f4, .int .i64 o.f5.f0.f0, .slice A6 o.f5.f0.f1.length c6, .slice A7 o.f5.f1.length c7, .slice A8 o.f5.f2.length c8, .bool o.f6] 57) = w1 at *
  generalize hbo : w.heap.size = bo at HX1 HO1 ⊢
  clear hbo
  have a0 : w1.cell? ⟨bo, 0, none⟩ = some (.int .i64 6) := blk_at HX1.out 0 rfl
  have a1 : w1.cell? ⟨bo, 1, none⟩ = some (.bool o.f1) := blk_at HX1.out 1 rfl
  have a2 : w1.cell? ⟨bo, 2, none⟩ = some (.bool o.f2) := blk_at HX1.out 2 rfl
  have a3 : w1.cell? ⟨bo, 3, none⟩ = some (.int .i64 o.f3) := blk_at HX1.out 3 rfl
  have a4 : w1.cell? ⟨bo, 4, none⟩ = some (.int .i64 o.f4) := blk_at HX1.out 4 rfl
  have a5 : w1.cell? ⟨bo, 5, none⟩ = some (.int .i64 o.f5.f0.f0) := blk_at HX1.out 5 rfl
  have a6 : w1.cell? ⟨bo, 6, none⟩ = some (.slice A6 o.f5.f0.f1.length c6) := blk_at HX1.out 6 rfl
  have a7 : w1.cell? ⟨bo, 7, none⟩ = some (.slice A7 o.f5.f1.length c7) := blk_at HX1.out 7 rfl
  have a8 : w1.cell? ⟨bo, 8, none⟩ = some (.slice A8 o.f5.f2.length c8) := blk_at HX1.out 8 rfl
  have a9 : w1.cell? ⟨bo, 9, none⟩ = some (.bool o.f6) := blk_at HX1.out 9 rfl
  go_upto_region 2 with (go_at_call 21; refine HNUM.out.mono ?_; rintro e w2 ⟨rfl, hb⟩)
  clear a0 a1 a2 a3 a4 a5 a6 a7 a8 a9 HNUM
  generalize numOf ⟨6, o.f1, o.f2, o.f3, o.f4, o.f5, o.f6⟩ last = id at *
  have hu2 : Upd (fun _ => False) own1 w1 own1 w2 := Upd.of_below' hb.out (fun _ _ => rfl)
  have HP2 := Lib.hid (HP1.out.upd (T := fun _ => False) (fun e => e) (fun e => e) hu2)
  have HR2 := Lib.hid (HR1.out.upd (T := fun _ => False) (fun e => e) (fun _ _ _ e => e) hu2)
  have HU2 : Hid (Upd (fun _ => False) own w own1 w2) := Lib.hid (HU1.out.then hu2)
  have HX2 := Lib.hid (blk_below HX1.out hb.out)
  replace HC6 := Lib.hid (HC6.out.upd (S := fun _ => False) (fun e => e) hu2)
  replace HC7 := Lib.hid (HC7.out.upd (S := fun _ => False) (fun e => e) hu2)
  replace HC8 := Lib.hid (HC8.out.upd (S := fun _ => False) (fun e => e) hu2)
  have HB2 : Hid (Below w.heap.size w w2) := Lib.hid (HB1.out.trans (hb.out.mono HB1.out.size))
  have a0 : w2.cell? ⟨bo, 0, none⟩ = some (.int .i64 6) := blk_at HX2.out 0 rfl
  have a1 : w2.cell? ⟨bo, 1, none⟩ = some (.bool o.f1) := blk_at HX2.out 1 rfl
  have a2 : w2.cell? ⟨bo, 2, none⟩ = some (.bool o.f2) := blk_at HX2.out 2 rfl
  have a3 : w2.cell? ⟨bo, 3, none⟩ = some (.int .i64 o.f3) := blk_at HX2.out 3 rfl
  have a4 : w2.cell? ⟨bo, 4, none⟩ = some (.int .i64 o.f4) := blk_at HX2.out 4 rfl
  have a5 : w2.cell? ⟨bo, 5, none⟩ = some (.int .i64 o.f5.f0.f0) := blk_at HX2.out 5 rfl
  have a6 : w2.cell? ⟨bo, 6, none⟩ = some (.slice A6 o.f5.f0.f1.length c6) := blk_at HX2.out 6 rfl
  have a7 : w2.cell? ⟨bo, 7, none⟩ = some (.slice A7 o.f5.f1.length c7) := blk_at HX2.out 7 rfl
  have a8 : w2.cell? ⟨bo, 8, none⟩ = some (.slice A8 o.f5.f2.length c8) := blk_at HX2.out 8 rfl
  have a9 : w2.cell? ⟨bo, 9, none⟩ = some (.bool o.f6) := blk_at HX2.out 9 rfl
  clear hb hu2 HP1 HR1 HU1 HX1 HB1
  have HCA := status14 own1 w2 g tg S bm c bw bp nm s r pps pbuf HP2.out H0.out id HWF.out
  have HRA := status41 own1 w2 gr tr R A cr rows rps HR2.out id
  rw [HRR.out.ef] at HCA
  generalize R.status id = x1 at *
  have HRA := Lib.hid HRA
  have k1 : (x1 == x1) = true := beq_self_eq_true _
  go_wp2_with (first
                  | (go_at_call 14; refine HCA.mono ?_; rintro e w3 ⟨rfl, rfl⟩)
                  | (go_at_call 41; refine HRA.out.mono ?_; rintro e w4 ⟨rfl, hu4⟩
                     have hu4' : Upd (fun _ => False) own1 w2 own1 w4 := hu4
                     have HP4 := Lib.hid (HP2.out.upd (T := fun _ => False) (fun e => e) (fun e => e) hu4')
                     have HR4 := Lib.hid (HR2.out.upd (T := fun _ => False) (fun e => e) (fun _ _ _ e => e) hu4')
                     have HU4 : Hid (Upd (fun t_ => t_ = tg ∨ Tg tr t_) own w own1 w4) := Lib.hid ((HU2.out.then hu4').mono (fun _ h => h.elim))
                     clear hu4 hu4'))
  go_ret2
  exact ⟨_, rfl, own1, S, R, bm, c, bw, bp, nm, s, r, pps, pbuf, A, cr, rows, rps, HP4, HR4, HRR, HPB, HU4, by omega⟩
set_option maxRecDepth 100000 in
set_option maxHeartbeats 16000000 in
theorem plays20_open (own : Nat → Nat) (w : World) (g gr tg tr : Nat) (S : PS) (R : RA) (bm c bw bp nm s r : Nat) (pps : List PP) (pbuf : List (Nat × PP)) (A : Option Addr) (cr : Nat) (rows : List SC) (rps : List PP) (hP : PostAt own w g tg S bm c bw bp nm s r pps pbuf) (hR : RefAt own w gr tr R A cr rows rps) (hRR : RR S R) (hPB : PB R) (h0 : tg ≠ 0) (htr : tg < tr) (hnm : nm + 1 < maxLen) (o : S57) (last : Int) (A6 : Option Addr) (c6 : Nat) (A7 : Option Addr) (c7 : Nat) (A8 : Option Addr) (c8 : Nat) (hC6 : StC k103 own w A6 o.f5.f0.f1.length o.f5.f0.f1) (hl6 : o.f5.f0.f1.length ≤ c6) (hC7 : StC (Kd.slice 83 k83) own w A7 o.f5.f1.length o.f5.f1) (hl7 : o.f5.f1.length ≤ c7) (hC8 : StC k83 own w A8 o.f5.f2.length o.f5.f2) (hl8 : o.f5.f2.length ≤ c8) (hp : partsP o.f5 ≤ 10000) (hwf : wfI o.f3) : Calls Try.prog 20 #[.pointer (some ⟨g, 0, none⟩), .pointer (some ⟨gr, 0, none⟩), .agg #[.int .i64 7, .bool o.f1, .bool o.f2, .int .i64 o.f3, .int .i64 o.f4, .int .i64 o.f5.f0.f0, .slice A6 o.f5.f0.f1.length c6, .slice A7 o.f5.f1.length c7, .slice A8 o.f5.f2.length c8, .bool o.f6], .int .i64 last] w fun e w' => ∃ last', e = .returned (.tuple #[.int .i64 last', .bool true]) ∧ PlayTo own w g gr tg tr nm w' := by
  obtain ⟨own1, hown1⟩ : ∃ own1 : Nat → Nat, own1 = fresh own w 0 := ⟨_, rfl⟩
  have HX1 : Hid ((w.alloc (.cells #[.int .i64 7, .bool o.f1, .bool o.f2, .int .i64 o.f3, .int .i64 o.f4, .int .i64 o.f5.f0.f0, .slice A6 o.f5.f0.f1.length c6, .slice A7 o.f5.f1.length c7, .slice A8 o.f5.f2.length c8, .bool o.f6] 57)).heap[w.heap.size]? = some (.cells #[.int .i64 7, .bool o.f1, .bool o.f2, .int .i64 o.f3, .int .i64 o.f4, .int .i64 o.f5.f0.f0, .slice A6 o.f5.f0.f1.length c6, .slice A7 o.f5.f1.length c7, .slice A8 o.f5.f2.length c8, .bool o.f6] 57 (0, 0))) := Lib.hid (blk_new w _)
  have HB1 : Hid (Below w.heap.size w (w.alloc (.cells #[.int .i64 7, .bool o.f1, .bool o.f2, .int .i64 o.f3, .int .i64 o.f4, .int .i64 o.f5.f0.f0, .slice A6 o.f5.f0.f1.length c6, .slice A7 o.f5.f1.length c7, .slice A8 o.f5.f2.length c8, .bool o.f6] 57))) := Lib.hid ((Below.refl _ _).alloc (Nat.le_refl _) _)
  have hu1 : Upd (fun _ => False) own w own1 (w.alloc (.cells #[.int .i64 7, .bool o.f1, .bool o.f2, .int .i64 o.f3, .int .i64 o.f4, .int .i64 o.f5.f0.f0, .slice A6 o.f5.f0.f1.length c6, .slice A7 o.f5.f1.length c7, .slice A8 o.f5.f2.length c8, .bool o.f6] 57)) := by rw [hown1]; exact Upd.alloc _ 0
  have HP1 := Lib.hid (hP.upd (T := fun _ => False) (fun e => e) (fun e => e) hu1)
  have HR1 := Lib.hid (hR.upd (T := fun _ => False) (fun e => e) (fun _ _ _ e => e) hu1)
  have HU1 := Lib.hid hu1
  have HO1 : Hid (own1 w.heap.size = 0) := Lib.hid (by rw [hown1]; exact fresh_new (Nat.le_refl _))
  have HNUM := Lib.hid (number21 ⟨7, o.f1, o.f2, o.f3, o.f4, o.f5, o.f6⟩ last A6 c6 A7 c7 A8 c8 (w.alloc (.cells #[.int .i64 7, .bool o.f1, .bool o.f2, .int .i64 o.f3, .int .i64 o.f4, .int .i64 o.f5.f0.f0, .slice A6 o.f5.f0.f1.length c6, .slice A7 o.f5.f1.length c7, .slice A8 o.f5.f2.length c8, .bool o.f6] 57)) (Kd.C_below hC6.now HB1.out) hl6 (Kd.C_below hC7.now HB1.out) hl7 (Kd.C_below hC8.now HB1.out) hl8)
  have HWF := Lib.hid (numOf_wf (o := ⟨7, o.f1, o.f2, o.f3, o.f4, o.f5, o.f6⟩) (last := last) hwf)
  have HRR := Lib.hid hRR
  have HPB := Lib.hid hPB
  have H0 := Lib.hid h0
  have HTR := Lib.hid htr
  have HNM := Lib.hid hnm
  have HC6 := Lib.hid (hC6.upd (S := fun _ => False) (fun e => e) hu1)
  have HC7 := Lib.hid (hC7.upd (S := fun _ => False) (fun e => e) hu1)
  have HC8 := Lib.hid (hC8.upd (S := fun _ => False) (fun e => e) hu1)
  have HON : Hid (∀ k, w.heap.size ≤ k → own1 k = 0) := Lib.hid (fun k hk => by rw [hown1]; exact fresh_new hk)
  have Hp := Lib.hid hp
  have Hl6 := Lib.hid hl6
  clear hP hR hRR hPB h0 htr hnm hC6 hl6 hC7 hl7 hC8 hl8 hp hwf hown1 hu1
  go_enter Try.func20, Try.ntmps20
  go_upto_region 1 with (fail)
  generalize w.alloc (.cells #[.int .i64 7, .bool o.f1, .bool o.f2, .int .i64 o.f3, .int .i64 o.f4, .int .i64 o.f5.f0.f0, .slice A6 o.f5.f0.f1.length c6, .slice A7 o.f5.f1.length c7, .slice A8 o.f5.f2.length c8, .bool o.f6] 57) = w1 at *
  generalize hbo : w.heap.size = bo at HX1 HO1 ⊢
  clear hbo
  have a0 : w1.cell? ⟨bo, 0, none⟩ = some (.int .i64 7) := blk_at HX1.out 0 rfl
  have a1 : w1.cell? ⟨bo, 1, none⟩ = some (.bool o.f1) := blk_at HX1.out 1 rfl
  have a2 : w1.cell? ⟨bo, 2, none⟩ = some (.bool o.f2) := blk_at HX1.out 2 rfl
  have a3 : w1.cell? ⟨bo, 3, none⟩ = some (.int .i64 o.f3) := blk_at HX1.out 3 rfl
  have a4 : w1.cell? ⟨bo, 4, none⟩ = some (.int .i64 o.f4) := blk_at HX1.out 4 rfl
  have a5 : w1.cell? ⟨bo, 5, none⟩ = some (.int .i64 o.f5.f0.f0) := blk_at HX1.out 5 rfl
  have a6 : w1.cell? ⟨bo, 6, none⟩ = some (.slice A6 o.f5.f0.f1.length c6) := blk_at HX1.out 6 rfl
  have a7 : w1.cell? ⟨bo, 7, none⟩ = some (.slice A7 o.f5.f1.length c7) := blk_at HX1.out 7 rfl
  have a8 : w1.cell? ⟨bo, 8, none⟩ = some (.slice A8 o.f5.f2.length c8) := blk_at HX1.out 8 rfl
  have a9 : w1.cell? ⟨bo, 9, none⟩ = some (.bool o.f6) := blk_at HX1.out 9 rfl
  go_upto_region 2 with (go_at_call 21; refine HNUM.out.mono ?_; rintro e w2 ⟨rfl, hb⟩)
  clear a0 a1 a2 a3 a4 a5 a6 a7 a8 a9 HNUM
  generalize numOf ⟨7, o.f1, o.f2, o.f3, o.f4, o.f5, o.f6⟩ last = id at *
  have hu2 : Upd (fun _ => False) own1 w1 own1 w2 := Upd.of_below' hb.out (fun _ _ => rfl)
  have HP2 := Lib.hid (HP1.out.upd (T := fun _ => False) (fun e => e) (fun e => e) hu2)
  have HR2 := Lib.hid (HR1.out.upd (T := fun _ => False) (fun e => e) (fun _ _ _ e => e) hu2)
  have HU2 : Hid (Upd (fun _ => False) own w own1 w2) := Lib.hid (HU1.out.then hu2)
  have HX2 := Lib.hid (blk_below HX1.out hb.out)
  replace HC6 := Lib.hid (HC6.out.upd (S := fun _ => False) (fun e => e) hu2)
  replace HC7 := Lib.hid (HC7.out.upd (S := fun _ => False) (fun e => e) hu2)
  replace HC8 := Lib.hid (HC8.out.upd (S := fun _ => False) (fun e => e) hu2)
  have HB2 : Hid (Below w.heap.size w w2) := Lib.hid (HB1.out.trans (hb.out.mono HB1.out.size))
  have a0 : w2.cell? ⟨bo, 0, none⟩ = some (.int .i64 7) := blk_at HX2.out 0 rfl
  have a1 : w2.cell? ⟨bo, 1, none⟩ = some (.bool o.f1) := blk_at HX2.out 1 rfl
  have a2 : w2.cell? ⟨bo, 2, none⟩ = some (.bool o.f2) := blk_at HX2.out 2 rfl
  have a3 : w2.cell? ⟨bo, 3, none⟩ = some (.int .i64 o.f3) := blk_at HX2.out 3 rfl
  have a4 : w2.cell? ⟨bo, 4, none⟩ = some (.int .i64 o.f4) := blk_at HX2.out 4 rfl
  have a5 : w2.cell? ⟨bo, 5, none⟩ = some (.int .i64 o.f5.f0.f0) := blk_at HX2.out 5 rfl
  have a6 : w2.cell? ⟨bo, 6, none⟩ = some (.slice A6 o.f5.f0.f1.length c6) := blk_at HX2.out 6 rfl
  have a7 : w2.cell? ⟨bo, 7, none⟩ = some (.slice A7 o.f5.f1.length c7) := blk_at HX2.out 7 rfl
  have a8 : w2.cell? ⟨bo, 8, none⟩ = some (.slice A8 o.f5.f2.length c8) := blk_at HX2.out 8 rfl
  have a9 : w2.cell? ⟨bo, 9, none⟩ = some (.bool o.f6) := blk_at HX2.out 9 rfl
  clear hb hu2 HP1 HR1 HU1 HX1 HB1
  have HCA := open17 own1 w2 g tg S bm c bw bp nm s r pps pbuf HP2.out H0.out
  rw [HRR.out.opened HR2.out.ok] at HCA
  have hll : R.open_.2.length ≤ 1000000 := by
    unfold RA.open_
    split
    · exact Nat.zero_le _
    · have := leftR_len R.ts R.pk R.n
      have := HR2.out.ok.n2
      show (leftR R.ts R.pk R.n).length ≤ _
      omega
  obtain ⟨x1, hx1⟩ : ∃ x, x = R.open_.1 := ⟨_, rfl⟩
  obtain ⟨ls, hls⟩ : ∃ x, x = R.open_.2 := ⟨_, rfl⟩
  rw [← hx1, ← hls] at HCA
  rw [← hls] at hll
  have Hx1 := Lib.hid hx1
  have Hls := Lib.hid hls
  have HLL := Lib.hid hll
  clear hx1 hls hll
  have k1 : (x1 == x1) = true := beq_self_eq_true _
  go_wp2_with (first
                  | (go_at_call 17; refine HCA.mono ?_; rintro e w3 ⟨v, rfl, hv, hb⟩
                     obtain ⟨Ax, cx, rfl⟩ := Kd.R_slice hv.out
                     have hu3 : Upd (fun _ => False) own1 w2 own1 w3 := Upd.of_below' hb.out (fun _ _ => rfl)
                     have HP3 := Lib.hid (HP2.out.upd (T := fun _ => False) (fun e => e) (fun e => e) hu3)
                     have HR3 := Lib.hid (HR2.out.upd (T := fun _ => False) (fun e => e) (fun _ _ _ e => e) hu3)
                     have HU3 : Hid (Upd (fun _ => False) own w own1 w3) := Lib.hid (HU2.out.then hu3)
                     have HV3 := hv
                     have HRA := open42 own1 w3 gr tr R A cr rows rps HR3.out
                     rw [← Hx1.out, ← Hls.out] at HRA
                     clear hu3 hb)
                  | (go_at_call 42; refine HRA.mono ?_; rintro e w4 ⟨v, rfl, hv4, hb⟩
                     obtain ⟨Ay, cy, rfl⟩ := Kd.R_slice hv4.out
                     have hu4 : Upd (fun _ => False) own1 w3 own1 w4 := Upd.of_below' hb.out (fun _ _ => rfl)
                     have HP4 := Lib.hid (HP3.out.upd (T := fun _ => False) (fun e => e) (fun e => e) hu4)
                     have HR4 := Lib.hid (HR3.out.upd (T := fun _ => False) (fun e => e) (fun _ _ _ e => e) hu4)
                     have HU4 : Hid (Upd (fun _ => False) own w own1 w4) := Lib.hid (HU3.out.then hu4)
                     have HC3 := Lib.hid (Kd.C_below (Kd.R_reads' HV3.out).2.2 hb.out)
                     have HSI := same43 ls HLL.out Ax cx Ay cy w4 HC3.out (Kd.R_reads' HV3.out).2.1 (Kd.R_reads' hv4.out).2.2 (Kd.R_reads' hv4.out).2.1
                     clear hu4 hb)
                  | (go_at_call 43; refine HSI.mono ?_; rintro e w5 ⟨rfl, hb⟩
                     have hu5 : Upd (fun _ => False) own1 w4 own1 w5 := Upd.of_below' hb.out (fun _ _ => rfl)
                     have HP5 := Lib.hid (HP4.out.upd (T := fun _ => False) (fun e => e) (fun e => e) hu5)
                     have HR5 := Lib.hid (HR4.out.upd (T := fun _ => False) (fun e => e) (fun _ _ _ e => e) hu5)
                     have HU5 : Hid (Upd (fun t_ => t_ = tg ∨ Tg tr t_) own w own1 w5) := Lib.hid ((HU4.out.then hu5).mono (fun _ h => h.elim))
                     clear hu5 hb))
  go_ret2
  exact ⟨_, rfl, own1, S, R, bm, c, bw, bp, nm, s, r, pps, pbuf, A, cr, rows, rps, HP5, HR5, HRR, HPB, HU5, by omega⟩
set_option maxRecDepth 100000 in
set_option maxHeartbeats 16000000 in
theorem plays20_none (own : Nat → Nat) (w : World) (g gr tg tr : Nat) (S : PS) (R : RA) (bm c bw bp nm s r : Nat) (pps : List PP) (pbuf : List (Nat × PP)) (A : Option Addr) (cr : Nat) (rows : List SC) (rps : List PP) (hP : PostAt own w g tg S bm c bw bp nm s r pps pbuf) (hR : RefAt own w gr tr R A cr rows rps) (hRR : RR S R) (hPB : PB R) (h0 : tg ≠ 0) (htr : tg < tr) (hnm : nm + 1 < maxLen) (o : S57) (last : Int) (A6 : Option Addr) (c6 : Nat) (A7 : Option Addr) (c7 : Nat) (A8 : Option Addr) (c8 : Nat) (hC6 : StC k103 own w A6 o.f5.f0.f1.length o.f5.f0.f1) (hl6 : o.f5.f0.f1.length ≤ c6) (hC7 : StC (Kd.slice 83 k83) own w A7 o.f5.f1.length o.f5.f1) (hl7 : o.f5.f1.length ≤ c7) (hC8 : StC k83 own w A8 o.f5.f2.length o.f5.f2) (hl8 : o.f5.f2.length ≤ c8) (hp : partsP o.f5 ≤ 10000) (hwf : wfI o.f3) (h1 : (o.f0 == 1) = false) ( h2 : (o.f0 == 2) = false) ( h3 : (o.f0 == 3) = false) ( h4 : (o.f0 == 4) = false) ( h5 : (o.f0 == 5) = false) ( h6 : (o.f0 == 6) = false) ( h7 : (o.f0 == 7) = false) : Calls Try.prog 20 #[.pointer (some ⟨g, 0, none⟩), .pointer (some ⟨gr, 0, none⟩), .agg #[.int .i64 o.f0, .bool o.f1, .bool o.f2, .int .i64 o.f3, .int .i64 o.f4, .int .i64 o.f5.f0.f0, .slice A6 o.f5.f0.f1.length c6, .slice A7 o.f5.f1.length c7, .slice A8 o.f5.f2.length c8, .bool o.f6], .int .i64 last] w fun e w' => ∃ last', e = .returned (.tuple #[.int .i64 last', .bool true]) ∧ PlayTo own w g gr tg tr nm w' := by
  obtain ⟨own1, hown1⟩ : ∃ own1 : Nat → Nat, own1 = fresh own w 0 := ⟨_, rfl⟩
  have HX1 : Hid ((w.alloc (.cells #[.int .i64 o.f0, .bool o.f1, .bool o.f2, .int .i64 o.f3, .int .i64 o.f4, .int .i64 o.f5.f0.f0, .slice A6 o.f5.f0.f1.length c6, .slice A7 o.f5.f1.length c7, .slice A8 o.f5.f2.length c8, .bool o.f6] 57)).heap[w.heap.size]? = some (.cells #[.int .i64 o.f0, .bool o.f1, .bool o.f2, .int .i64 o.f3, .int .i64 o.f4, .int .i64 o.f5.f0.f0, .slice A6 o.f5.f0.f1.length c6, .slice A7 o.f5.f1.length c7, .slice A8 o.f5.f2.length c8, .bool o.f6] 57 (0, 0))) := Lib.hid (blk_new w _)
  have HB1 : Hid (Below w.heap.size w (w.alloc (.cells #[.int .i64 o.f0, .bool o.f1, .bool o.f2, .int .i64 o.f3, .int .i64 o.f4, .int .i64 o.f5.f0.f0, .slice A6 o.f5.f0.f1.length c6, .slice A7 o.f5.f1.length c7, .slice A8 o.f5.f2.length c8, .bool o.f6] 57))) := Lib.hid ((Below.refl _ _).alloc (Nat.le_refl _) _)
  have hu1 : Upd (fun _ => False) own w own1 (w.alloc (.cells #[.int .i64 o.f0, .bool o.f1, .bool o.f2, .int .i64 o.f3, .int .i64 o.f4, .int .i64 o.f5.f0.f0, .slice A6 o.f5.f0.f1.length c6, .slice A7 o.f5.f1.length c7, .slice A8 o.f5.f2.length c8, .bool o.f6] 57)) := by rw [hown1]; exact Upd.alloc _ 0
  have HP1 := Lib.hid (hP.upd (T := fun _ => False) (fun e => e) (fun e => e) hu1)
  have HR1 := Lib.hid (hR.upd (T := fun _ => False) (fun e => e) (fun _ _ _ e => e) hu1)
  have HU1 := Lib.hid hu1
  have HO1 : Hid (own1 w.heap.size = 0) := Lib.hid (by rw [hown1]; exact fresh_new (Nat.le_refl _))
  have HNUM := Lib.hid (number21 ⟨o.f0, o.f1, o.f2, o.f3, o.f4, o.f5, o.f6⟩ last A6 c6 A7 c7 A8 c8 (w.alloc (.cells #[.int .i64 o.f0, .bool o.f1, .bool o.f2, .int .i64 o.f3, .int .i64 o.f4, .int .i64 o.f5.f0.f0, .slice A6 o.f5.f0.f1.length c6, .slice A7 o.f5.f1.length c7, .slice A8 o.f5.f2.length c8, .bool o.f6] 57)) (Kd.C_below hC6.now HB1.out) hl6 (Kd.C_below hC7.now HB1.out) hl7 (Kd.C_below hC8.now HB1.out) hl8)
  have HWF := Lib.hid (numOf_wf (o := ⟨o.f0, o.f1, o.f2, o.f3, o.f4, o.f5, o.f6⟩) (last := last) hwf)
  have HRR := Lib.hid hRR
  have HPB := Lib.hid hPB
  have H0 := Lib.hid h0
  have HTR := Lib.hid htr
  have HNM := Lib.hid hnm
  have HC6 := Lib.hid (hC6.upd (S := fun _ => False) (fun e => e) hu1)
  have HC7 := Lib.hid (hC7.upd (S := fun _ => False) (fun e => e) hu1)
  have HC8 := Lib.hid (hC8.upd (S := fun _ => False) (fun e => e) hu1)
  have HON : Hid (∀ k, w.heap.size ≤ k → own1 k = 0) := Lib.hid (fun k hk => by rw [hown1]; exact fresh_new hk)
  have Hp := Lib.hid hp
  have Hl6 := Lib.hid hl6
  clear hP hR hRR hPB h0 htr hnm hC6 hl6 hC7 hl7 hC8 hl8 hp hwf hown1 hu1
  go_enter Try.func20, Try.ntmps20
  go_upto_region 1 with (fail)
  generalize w.alloc (.cells #[.int .i64 o.f0, .bool o.f1, .bool o.f2, .int .i64 o.f3, .int .i64 o.f4, .int .i64 o.f5.f0.f0, .slice A6 o.f5.f0.f1.length c6, .slice A7 o.f5.f1.length c7, .slice A8 o.f5.f2.length c8, .bool o.f6] 57) = w1 at *
  generalize hbo : w.heap.size = bo at HX1 HO1 ⊢
  clear hbo
  have a0 : w1.cell? ⟨bo, 0, none⟩ = some (.int .i64 o.f0) := blk_at HX1.out 0 rfl
  have a1 : w1.cell? ⟨bo, 1, none⟩ = some (.bool o.f1) := blk_at HX1.out 1 rfl
  have a2 : w1.cell? ⟨bo, 2, none⟩ = some (.bool o.f2) := blk_at HX1.out 2 rfl
  have a3 : w1.cell? ⟨bo, 3, none⟩ = some (.int .i64 o.f3) := blk_at HX1.out 3 rfl
  have a4 : w1.cell? ⟨bo, 4, none⟩ = some (.int .i64 o.f4) := blk_at HX1.out 4 rfl
  have a5 : w1.cell? ⟨bo, 5, none⟩ = some (.int .i64 o.f5.f0.f0) := blk_at HX1.out 5 rfl
  have a6 : w1.cell? ⟨bo, 6, none⟩ = some (.slice A6 o.f5.f0.f1.length c6) := blk_at HX1.out 6 rfl
  have a7 : w1.cell? ⟨bo, 7, none⟩ = some (.slice A7 o.f5.f1.length c7) := blk_at HX1.out 7 rfl
  have a8 : w1.cell? ⟨bo, 8, none⟩ = some (.slice A8 o.f5.f2.length c8) := blk_at HX1.out 8 rfl
  have a9 : w1.cell? ⟨bo, 9, none⟩ = some (.bool o.f6) := blk_at HX1.out 9 rfl
  go_upto_region 2 with (go_at_call 21; refine HNUM.out.mono ?_; rintro e w2 ⟨rfl, hb⟩)
  clear a0 a1 a2 a3 a4 a5 a6 a7 a8 a9 HNUM
  generalize numOf ⟨o.f0, o.f1, o.f2, o.f3, o.f4, o.f5, o.f6⟩ last = id at *
  have hu2 : Upd (fun _ => False) own1 w1 own1 w2 := Upd.of_below' hb.out (fun _ _ => rfl)
  have HP2 := Lib.hid (HP1.out.upd (T := fun _ => False) (fun e => e) (fun e => e) hu2)
  have HR2 := Lib.hid (HR1.out.upd (T := fun _ => False) (fun e => e) (fun _ _ _ e => e) hu2)
  have HU2 : Hid (Upd (fun _ => False) own w own1 w2) := Lib.hid (HU1.out.then hu2)
  have HX2 := Lib.hid (blk_below HX1.out hb.out)
  replace HC6 := Lib.hid (HC6.out.upd (S := fun _ => False) (fun e => e) hu2)
  replace HC7 := Lib.hid (HC7.out.upd (S := fun _ => False) (fun e => e) hu2)
  replace HC8 := Lib.hid (HC8.out.upd (S := fun _ => False) (fun e => e) hu2)
  have HB2 : Hid (Below w.heap.size w w2) := Lib.hid (HB1.out.trans (hb.out.mono HB1.out.size))
  have a0 : w2.cell? ⟨bo, 0, none⟩ = some (.int .i64 o.f0) := blk_at HX2.out 0 rfl
  have a1 : w2.cell? ⟨bo, 1, none⟩ = some (.bool o.f1) := blk_at HX2.out 1 rfl
  have a2 : w2.cell? ⟨bo, 2, none⟩ = some (.bool o.f2) := blk_at HX2.out 2 rfl
  have a3 : w2.cell? ⟨bo, 3, none⟩ = some (.int .i64 o.f3) := blk_at HX2.out 3 rfl
  have a4 : w2.cell? ⟨bo, 4, none⟩ = some (.int .i64 o.f4) := blk_at HX2.out 4 rfl
  have a5 : w2.cell? ⟨bo, 5, none⟩ = some (.int .i64 o.f5.f0.f0) := blk_at HX2.out 5 rfl
  have a6 : w2.cell? ⟨bo, 6, none⟩ = some (.slice A6 o.f5.f0.f1.length c6) := blk_at HX2.out 6 rfl
  have a7 : w2.cell? ⟨bo, 7, none⟩ = some (.slice A7 o.f5.f1.length c7) := blk_at HX2.out 7 rfl
  have a8 : w2.cell? ⟨bo, 8, none⟩ = some (.slice A8 o.f5.f2.length c8) := blk_at HX2.out 8 rfl
  have a9 : w2.cell? ⟨bo, 9, none⟩ = some (.bool o.f6) := blk_at HX2.out 9 rfl
  clear hb hu2 HP1 HR1 HU1 HX1 HB1
  go_wp2_with (fail)
  go_ret2
  exact ⟨_, rfl, own1, S, R, bm, c, bw, bp, nm, s, r, pps, pbuf, A, cr, rows, rps, HP2, HR2, HRR, HPB, Lib.hid (HU2.out.mono (fun _ h => h.elim)), by omega⟩
end Go.Proofs.Ytcbaiplamaopeaa.PPostShots
