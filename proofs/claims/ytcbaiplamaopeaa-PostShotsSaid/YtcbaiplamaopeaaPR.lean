/- The story's step; PostShots, walked. -/
import Derived.Test.YtcbaiplamaopeaaPQ
import Derived.Test.YtcbaiplamaopeaaPM
import Derived.Test.YtcbaiplamaopeaaPK
import Derived.Test.YtcbaiplamaopeaaSI
namespace Go.Proofs.Ytcbaiplamaopeaa.PPostShots
open Go.RowKit Go.Conc Go.Proofs.YtcbaiplamaopeaaW.PrintWords Go.Proofs.YtcbaiplamaopeaaW.PrintLast Go.Proofs.Ytcbaiplamaopeaa.PPost
set_option linter.unusedVariables false
set_option linter.unusedSimpArgs false

def StepTo (own : Nat → Nat) (w : World) (g gs n : Nat) (sum : Int) (nm : Nat) (mk : Int) (w' : World) : Prop :=
  ∃ (own' : Nat → Nat) (S' : PS) (T' : ST) (v' : Value) (bm c bw bp nm' s r : Nat) (pps : List PP) (pbuf : List (Nat × PP)), Hid (PostAt own' w' g 1 S' bm c bw bp nm' s r pps pbuf) ∧ Hid (StAt own' w' gs n T' v') ∧ Hid (SS n sum S' T') ∧ Hid (Upd (fun t => t = 1 ∨ t = 2) own w own' w') ∧ nm' ≤ nm + 1 ∧ 0 ≤ T'.marks ∧ T'.marks ≤ mk + 1
set_option maxRecDepth 100000 in
set_option maxHeartbeats 40000000 in
theorem step16 (own : Nat → Nat) (w : World) (g : Nat) (S : PS) (bm c bw bp nm s r : Nat) (pps : List PP) (pbuf : List (Nat × PP)) (h : PostAt own w g 1 S bm c bw bp nm s r pps pbuf) (gs n : Nat) (sum : Int) (T : ST) (v : Value) (hG : StAt own w gs n T v) (hss : SS n sum S T) (hnm : nm + 1 < maxLen) (hmk0 : 0 ≤ T.marks) (hmk1 : T.marks ≤ 20000000000000)
    (o : S57) (A6 : Option Addr) (c6 : Nat) (A7 : Option Addr) (c7 : Nat) (A8 : Option Addr) (c8 : Nat) (hC6 : Kd.C k103 w A6 o.f5.f0.f1.length o.f5.f0.f1) (hl6 : o.f5.f0.f1.length ≤ c6) (hC7 : Kd.C (Kd.slice 83 k83) w A7 o.f5.f1.length o.f5.f1) (hl7 : o.f5.f1.length ≤ c7) (hC8 : Kd.C k83 w A8 o.f5.f2.length o.f5.f2) (hl8 : o.f5.f2.length ≤ c8) :
    Calls Try.prog 16 #[.pointer (some ⟨gs, 0, none⟩), .pointer (some ⟨g, 0, none⟩), .int .i64 n, .int .u32 sum, .agg #[.int .i64 o.f0, .bool o.f1, .bool o.f2, .int .i64 o.f3, .int .i64 o.f4, .int .i64 o.f5.f0.f0, .slice A6 o.f5.f0.f1.length c6, .slice A7 o.f5.f1.length c7, .slice A8 o.f5.f2.length c8, .bool o.f6]] w fun e w' => e = .returned (.bool true) ∧ StepTo own w g gs n sum nm T.marks w' := by
  obtain ⟨nx, hnx⟩ : ∃ nx, nx = T.next := ⟨_, rfl⟩
  obtain ⟨mk, hmk⟩ : ∃ mk, mk = T.marks := ⟨_, rfl⟩
  have hn12 : n ≤ 12 := by rw [← hss.en]; exact h.ok.n2
  have hx1 : 1 ≤ nx := by rw [hnx, ← hss.nx]; exact h.ok.x1
  have hx2 : nx ≤ 10000 := by rw [hnx, ← hss.nx]; exact h.ok.x2
  have hwr : IntKind.i64.wrap (nx - 1) = nx - 1 := by rw [IntKind.wrap_i64]; omega
  obtain ⟨own1, hown1⟩ : ∃ own1 : Nat → Nat, own1 = fresh own w 3 := ⟨_, rfl⟩
  have HX1 := Lib.hid (blk_new w (.cells #[.int .i64 o.f0, .bool o.f1, .bool o.f2, .int .i64 o.f3, .int .i64 o.f4, .int .i64 o.f5.f0.f0, .slice A6 o.f5.f0.f1.length c6, .slice A7 o.f5.f1.length c7, .slice A8 o.f5.f2.length c8, .bool o.f6] 57))
  have HB1 : Hid (Below w.heap.size w (w.alloc (.cells #[.int .i64 o.f0, .bool o.f1, .bool o.f2, .int .i64 o.f3, .int .i64 o.f4, .int .i64 o.f5.f0.f0, .slice A6 o.f5.f0.f1.length c6, .slice A7 o.f5.f1.length c7, .slice A8 o.f5.f2.length c8, .bool o.f6] 57))) := Lib.hid ((Below.refl _ _).alloc (Nat.le_refl _) _)
  have HP1 : Hid (PostAt own1 (w.alloc (.cells #[.int .i64 o.f0, .bool o.f1, .bool o.f2, .int .i64 o.f3, .int .i64 o.f4, .int .i64 o.f5.f0.f0, .slice A6 o.f5.f0.f1.length c6, .slice A7 o.f5.f1.length c7, .slice A8 o.f5.f2.length c8, .bool o.f6] 57)) g 1 S bm c bw bp nm s r pps pbuf) := Lib.hid (by rw [hown1]; exact h.upd (T := fun _ => False) (fun e => e) (fun e => e) (Upd.alloc _ 3))
  have HG1 : Hid (StAt own1 (w.alloc (.cells #[.int .i64 o.f0, .bool o.f1, .bool o.f2, .int .i64 o.f3, .int .i64 o.f4, .int .i64 o.f5.f0.f0, .slice A6 o.f5.f0.f1.length c6, .slice A7 o.f5.f1.length c7, .slice A8 o.f5.f2.length c8, .bool o.f6] 57)) gs n T v) := Lib.hid (by rw [hown1]; exact hG.upd (P := fun _ => False) (fun e => e) (Upd.alloc _ 3))
  have HU1 : Hid (Upd (fun t => t = 1 ∨ t = 2) own w own1 (w.alloc (.cells #[.int .i64 o.f0, .bool o.f1, .bool o.f2, .int .i64 o.f3, .int .i64 o.f4, .int .i64 o.f5.f0.f0, .slice A6 o.f5.f0.f1.length c6, .slice A7 o.f5.f1.length c7, .slice A8 o.f5.f2.length c8, .bool o.f6] 57))) := Lib.hid (by rw [hown1]; exact Upd.alloc _ 3)
  have HTX : Hid (own1 w.heap.size = 3) := Lib.hid (by rw [hown1]; exact fresh_new (Nat.le_refl _))
  have HNUM : Hid (∀ W : World, Below w.heap.size w W → Calls Try.prog 21 #[.agg #[.int .i64 o.f0, .bool o.f1, .bool o.f2, .int .i64 o.f3, .int .i64 o.f4, .int .i64 o.f5.f0.f0, .slice A6 o.f5.f0.f1.length c6, .slice A7 o.f5.f1.length c7, .slice A8 o.f5.f2.length c8, .bool o.f6], .int .i64 (nx - 1)] W fun e w' => e = .returned (.int .i64 (numOf o (nx - 1))) ∧ Hid (Below W.heap.size W w')) := Lib.hid (fun W hW => number21 o (nx - 1) A6 c6 A7 c7 A8 c8 W (Kd.C_below hC6 hW) hl6 (Kd.C_below hC7 hW) hl7 (Kd.C_below hC8 hW) hl8)
  have HSS := Lib.hid hss
  have Hnm := Lib.hid hnm
  have HMK := Lib.hid (And.intro hmk0 (show T.marks ≤ T.marks by omega))
  have Hmk := Lib.hid hmk
  have Hnx := Lib.hid hnx
  have hm0 : 0 ≤ mk := by omega
  have hm1 : mk ≤ 20000000000000 := by omega
  clear h hG hss hnm hC6 hl6 hC7 hl7 hC8 hl8 hown1 hmk0 hmk1 hmk hnx
  go_enter Try.func16, Try.ntmps16
  go_upto_region 1 with (fail)
  generalize w.alloc (.cells #[.int .i64 o.f0, .bool o.f1, .bool o.f2, .int .i64 o.f3, .int .i64 o.f4, .int .i64 o.f5.f0.f0, .slice A6 o.f5.f0.f1.length c6, .slice A7 o.f5.f1.length c7, .slice A8 o.f5.f2.length c8, .bool o.f6] 57) = w1 at *
  generalize hbo : w.heap.size = bo at HX1 HTX ⊢
  clear hbo
  refine start_ (n := 8) (S := (fun w' => w'.cell? ⟨bo, 0, none⟩ = some (.int .i64 o.f0) ∧ w'.cell? ⟨bo, 1, none⟩ = some (.bool o.f1) ∧ w'.cell? ⟨bo, 2, none⟩ = some (.bool o.f2) ∧ w'.cell? ⟨bo, 3, none⟩ = some (.int .i64 o.f3) ∧ w'.cell? ⟨bo, 4, none⟩ = some (.int .i64 o.f4) ∧ w'.cell? ⟨bo, 5, none⟩ = some (.int .i64 o.f5.f0.f0) ∧ w'.cell? ⟨bo, 6, none⟩ = some (.slice A6 o.f5.f0.f1.length c6) ∧ w'.cell? ⟨bo, 7, none⟩ = some (.slice A7 o.f5.f1.length c7) ∧ w'.cell? ⟨bo, 8, none⟩ = some (.slice A8 o.f5.f2.length c8) ∧ w'.cell? ⟨bo, 9, none⟩ = some (.bool o.f6) ∧ w'.cell? ⟨gs, 4, none⟩ = some (.int .i64 nx))) (ds := []) #[false, false, false, false, false, false, false, false] (by kernel_rfl) rfl rfl ⟨blk_at HX1.out 0 rfl, blk_at HX1.out 1 rfl, blk_at HX1.out 2 rfl, blk_at HX1.out 3 rfl, blk_at HX1.out 4 rfl, blk_at HX1.out 5 rfl, blk_at HX1.out 6 rfl, blk_at HX1.out 7 rfl, blk_at HX1.out 8 rfl, blk_at HX1.out 9 rfl, by rw [Hnx.out]; exact blk_at HG1.out.hb 4 rfl⟩ (fun hHeld => ?_)
  have hwd : Upd (fun _ => False) own1 w1 own1 w1.drew := Upd.drew
  have HPW := Lib.hid (HP1.out.upd (T := fun _ => False) (fun e => e) (fun e => e) hwd)
  have HGW := Lib.hid (HG1.out.upd (P := fun _ => False) (fun e => e) hwd)
  have HUW := Lib.hid (HU1.out.then (hwd.mono (fun _ h => h.elim)))
  have HXW : Hid (w1.drew.heap[bo]? = some (.cells #[.int .i64 o.f0, .bool o.f1, .bool o.f2, .int .i64 o.f3, .int .i64 o.f4, .int .i64 o.f5.f0.f0, .slice A6 o.f5.f0.f1.length c6, .slice A7 o.f5.f1.length c7, .slice A8 o.f5.f2.length c8, .bool o.f6] 57 (0, 0))) := HX1
  have HBw := Lib.hid HB1.out.drew
  clear hwd HP1 HG1 HU1 HX1 HB1
  generalize w1.drew = W at *
  refine take_ (i := 0) (N := some 21) (v := ?_) (a' := ?_) #[true, false, false, false, false, false, false, false] rfl rfl (by kernel_rfl) (fun _ _ _ h => h) (Or.inl ⟨by rfl, ?_⟩) hHeld ?_ ?_
  rotate_left
  · rintro w' ⟨s0, s1, s2, s3, s4, s5, s6, s7, s8, s9, s10⟩
    go_simp
    with_reducible rfl
  rotate_left
  · simp only [Act.put, List.setIfInBounds_toArray, List.set_cons_zero, List.set_cons_succ]
    rfl
  refine pure_ (i := 1) (N := some 22) (v := ?_) (a' := ?_) #[true, true, false, false, false, false, false, false] rfl rfl (by kernel_rfl) (fun _ _ _ h => h) (Or.inl ⟨by rfl, ?_⟩) ?_ ?_
  rotate_left
  · intro w'
    go_simp
    with_reducible rfl
  rotate_left
  · simp only [Act.put, List.setIfInBounds_toArray, List.set_cons_zero, List.set_cons_succ]
    rfl
  refine pure_ (i := 2) (N := some 23) (v := ?_) (a' := ?_) #[true, true, true, false, false, false, false, false] rfl rfl (by kernel_rfl) (fun _ _ _ h => h) (Or.inl ⟨by rfl, ?_⟩) ?_ ?_
  rotate_left
  · intro w'
    go_simp
    with_reducible rfl
  rotate_left
  · simp only [Act.put, List.setIfInBounds_toArray, List.set_cons_zero, List.set_cons_succ]
    rfl
  refine pure_ (i := 3) (N := some 24) (v := ?_) (a' := ?_) #[true, true, true, true, false, false, false, false] rfl rfl (by kernel_rfl) (fun _ _ _ h => h) (Or.inl ⟨by rfl, ?_⟩) ?_ ?_
  rotate_left
  · intro w'
    go_simp
    with_reducible rfl
  rotate_left
  · simp only [Act.put, List.setIfInBounds_toArray, List.set_cons_zero, List.set_cons_succ]
    rfl
  refine take_ (i := 4) (N := some 25) (v := ?_) (a' := ?_) #[true, true, true, true, true, false, false, false] rfl rfl (by kernel_rfl) (fun _ _ _ h => h) (Or.inl ⟨by rfl, ?_⟩) hHeld ?_ ?_
  rotate_left
  · rintro w' ⟨s0, s1, s2, s3, s4, s5, s6, s7, s8, s9, s10⟩
    go_simp
    with_reducible rfl
  rotate_left
  · simp only [Act.put, List.setIfInBounds_toArray, List.set_cons_zero, List.set_cons_succ]
    rfl
  refine pure_ (i := 5) (N := some 26) (v := ?_) (a' := ?_) #[true, true, true, true, true, true, false, false] rfl rfl (by kernel_rfl) (fun _ _ _ h => h) (Or.inl ⟨by rfl, ?_⟩) ?_ ?_
  rotate_left
  · intro w'
    go_simp
    with_reducible rfl
  rotate_left
  · simp only [Act.put, List.setIfInBounds_toArray, List.set_cons_zero, List.set_cons_succ]
    rfl
  refine one_ (i := 6) (N := some 27) #[true, true, true, true, true, true, true, false] rfl rfl (by kernel_rfl) (by decide) (fun K hK => ?_)
  refine goes_ Try.func21 (by kernel_rfl) rfl #[.agg #[.int .i64 o.f0, .bool o.f1, .bool o.f2, .int .i64 o.f3, .int .i64 o.f4, .int .i64 o.f5.f0.f0, .slice A6 o.f5.f0.f1.length c6, .slice A7 o.f5.f1.length c7, .slice A8 o.f5.f2.length c8, .bool o.f6], .int .i64 (nx - 1)] (by rfl) rfl rfl (by simp only [List.map_toArray, List.map_cons, List.map_nil]; rfl) ?_
  refine (HNUM.out W HBw.out).mono ?_
  rintro e w2 ⟨rfl, hb⟩
  refine ⟨_, rfl, ?_⟩
  have hu2 : Upd (fun _ => False) own1 W own1 w2 := Upd.of_below' hb.out (fun _ _ => rfl)
  have HP2 := Lib.hid (HPW.out.upd (T := fun _ => False) (fun e => e) (fun e => e) hu2)
  have HG2 := Lib.hid (HGW.out.upd (P := fun _ => False) (fun e => e) hu2)
  have HU2 := Lib.hid (HUW.out.then (hu2.mono (fun _ h => h.elim)))
  have HX2 := Lib.hid (blk_below HXW.out hb.out)
  refine hK.out _ _ ⟨pw_cell_below hb.out hHeld.1, pw_cell_below hb.out hHeld.2.1, pw_cell_below hb.out hHeld.2.2.1, pw_cell_below hb.out hHeld.2.2.2.1, pw_cell_below hb.out hHeld.2.2.2.2.1, pw_cell_below hb.out hHeld.2.2.2.2.2.1, pw_cell_below hb.out hHeld.2.2.2.2.2.2.1, pw_cell_below hb.out hHeld.2.2.2.2.2.2.2.1, pw_cell_below hb.out hHeld.2.2.2.2.2.2.2.2.1, pw_cell_below hb.out hHeld.2.2.2.2.2.2.2.2.2.1, pw_cell_below hb.out hHeld.2.2.2.2.2.2.2.2.2.2⟩ (fun hHeld => ?_)
  clear hK K hb hu2 HPW HGW HUW HXW
  refine norm_ (a' := ?_) ?_ ?_
  rotate_left
  · show Act.put _ (some 27) _ = _
    simp only [Act.put, List.setIfInBounds_toArray, List.set_cons_zero, List.set_cons_succ]
    rfl
  refine pure_ (i := 7) (N := some 11) (v := ?_) (a' := ?_) #[true, true, true, true, true, true, true, true] rfl rfl (by kernel_rfl) (fun _ _ _ h => h) (Or.inl ⟨by rfl, ?_⟩) ?_ ?_
  rotate_left
  · intro w'
    go_simp
    with_reducible rfl
  rotate_left
  · simp only [Act.put, List.setIfInBounds_toArray, List.set_cons_zero, List.set_cons_succ]
    rfl
  refine done_ (by kernel_rfl) ?_
  clear hHeld HNUM HBw
  generalize numOf o (nx - 1) = id at *
  have p0 : w2.cell? ⟨bo, 0, none⟩ = some (.int .i64 o.f0) := blk_at HX2.out 0 rfl
  go_upto_block 0 with (fail)
  clear p0
  by_cases h1 : o.f0 = 1
  · have k1 : (o.f0 == 1) = true := by simpa using h1
    have HT := Lib.hid (trigger9 own1 w2 g 1 S bm c bw bp nm s r pps pbuf HP2.out (by decide) (by have := Hnm.out; omega))
    clear h1
    rcases HSS.out.trig HP2.out.ok with ⟨t1, t2⟩ | ⟨t1, t2, t3⟩ | ⟨t1, t2, t3, t4, t5⟩
    · rw [t2] at HT
      dsimp only at HT
      have Ht1 := Lib.hid t1
      clear t1 t2
      go_wp2_with (first
        | (go_at_call 9; refine HT.out.mono ?_; rintro e w3 ⟨rfl, own3, bm3, c3, bw3, bp3, nm3, s3, r3, pps3, pbuf3, hP, hU, hn⟩
           have HP3 := Lib.hid hP
           have HG3 := Lib.hid (HG2.out.upd (P := (· = 1)) (by decide) hU)
           have HU3 := Lib.hid (HU2.out.then (hU.mono (fun _ h => .inl h)))
           have Hnm3 := Lib.hid hn
           clear hP hU hn)
        | (go_at_call 18; refine (story18_under own3 w3 gs n T v HG3.out sum Ht1.out).mono ?_; rintro e w4 ⟨rfl, rfl⟩))
      go_ret
      exact ⟨rfl, own3, S, T, v, bm3, c3, bw3, bp3, nm3, s3, r3, pps3, pbuf3, HP3, HG3, Lib.hid (HSS.out), HU3, Hnm3.out, HMK.out.1, (show T.marks ≤ T.marks + 1 by omega)⟩
    · rw [t3] at HT
      dsimp only at HT
      have Ht1 := Lib.hid t1
      have Ht2 := Lib.hid t2
      clear t1 t2 t3
      go_wp2_with (first
        | (go_at_call 9; refine HT.out.mono ?_; rintro e w3 ⟨rfl, own3, bm3, c3, bw3, bp3, nm3, s3, r3, pps3, pbuf3, hP, hU, hn⟩
           have HP3 := Lib.hid hP
           have HG3 := Lib.hid (HG2.out.upd (P := (· = 1)) (by decide) hU)
           have HU3 := Lib.hid (HU2.out.then (hU.mono (fun _ h => .inl h)))
           have Hnm3 := Lib.hid hn
           clear hP hU hn)
        | (go_at_call 18; refine (story18_ids own3 w3 gs n T v HG3.out (by have := Ht1.out; omega) (by have := Ht2.out; omega)).mono ?_; rintro e w4 ⟨rfl, rfl⟩))
      go_ret
      exact ⟨rfl, own3, S, T, v, bm3, c3, bw3, bp3, nm3, s3, r3, pps3, pbuf3, HP3, HG3, Lib.hid (HSS.out), HU3, Hnm3.out, HMK.out.1, (show T.marks ≤ T.marks + 1 by omega)⟩
    · rw [t3, t4] at HT
      have Ht1 := Lib.hid t1
      have Ht2 := Lib.hid t2
      have Ht5 := Lib.hid t5
      clear t1 t2 t3 t4 t5
      go_wp2_with (first
        | (go_at_call 9; refine HT.out.mono ?_; rintro e w3 ⟨rfl, own3, bm3, c3, bw3, bp3, nm3, s3, r3, pps3, pbuf3, hP, hU, hn⟩
           have HP3 := Lib.hid hP
           have HG3 := Lib.hid (HG2.out.upd (P := (· = 1)) (by decide) hU)
           have HU3 := Lib.hid (HU2.out.then (hU.mono (fun _ h => .inl h)))
           have Hnm3 := Lib.hid hn
           clear hP hU hn)
        | (go_at_call 18; refine (story18_ok own3 w3 gs n T v HG3.out (by have := Ht1.out; omega) (by have := Ht2.out; omega) (by rw [← Hnx.out]; exact hx1) hn12).mono ?_; rintro e w4 ⟨rfl, own4, v4, HG4, hu4⟩
           have HU4 := Lib.hid (HU3.out.then (hu4.out.mono (fun _ h => .inr h)))
           have HP4 := Lib.hid (HP3.out.upd (T := (· = 2)) (by decide) (by decide) hu4.out)
           clear hu4))
      go_ret
      exact ⟨rfl, own4, _, T.trigd n, v4, bm3, c3, bw3, bp3, nm3, s3, r3, pps3, pbuf3, HP4, HG4, Lib.hid (Ht5.out), HU4, Hnm3.out, HMK.out.1, (show T.marks ≤ T.marks + 1 by omega)⟩
  have k1 : (o.f0 == 1) = false := by simpa using h1
  clear h1
  by_cases h1 : o.f0 = 2
  · have k2 : (o.f0 == 2) = true := by simpa using h1
    clear h1
    have y5 : w2.cell? ⟨gs, 5, none⟩ = some (.int .i64 mk) := by rw [Hmk.out]; exact blk_at HG2.out.hb 5 rfl
    have z5 : w2.frozen? ⟨gs, 5, none⟩ = false := blk_frozen HG2.out.hb 5
    have hu3 : Upd (· = 2) own1 w2 own1 (w2.setCell ⟨gs, 5, none⟩ (.int .i64 (mk + 1))) := set_own HG2.out.og 5 _
    have HP3 := Lib.hid (HP2.out.upd (T := (· = 2)) (by decide) (by decide) hu3)
    have HG3 : Hid (StAt own1 (w2.setCell ⟨gs, 5, none⟩ (.int .i64 (mk + 1))) gs n T.marked v) := Lib.hid (HG2.out.put 5 _ (by rw [Hmk.out]; rfl) rfl (fun h => h))
    have HU3 := Lib.hid (HU2.out.then (hu3.mono (fun _ h => .inr h)))
    have HX3 := Lib.hid (hu3.blk HX2.out (by rw [HTX.out]; decide))
    have hcase : ∃ (E : Int) (S' : PS), S.hand id o.f4 (prt (mk + 1)) = (E, S') ∧ ((¬ takesP n T id o.f4 ∧ E ≠ 0 ∧ S' = S) ∨ (∃ τ : Nat, o.f4 = τ ∧ takesP n T id τ ∧ E = 0 ∧ SS n sum S' (T.marked.tookIn τ))) := by
      by_cases ht : takesP n T id o.f4
      · have hτ : ((o.f4.toNat : Nat) : Int) = o.f4 := by have := ht.1.1; omega
        obtain ⟨e1, e2⟩ := HSS.out.marked.taken HP2.out.ok id o.f4.toNat (by rw [hτ]; exact ht) (by show 0 < T.marks + 1; have := HMK.out.1; omega)
        refine ⟨0, S.handed o.f4.toNat (prt (mk + 1)), ?_, .inr ⟨o.f4.toNat, hτ.symm, by rw [hτ]; exact ht, rfl, ?_⟩⟩
        · have : S.hand id ((o.f4.toNat : Nat) : Int) (prt (mk + 1)) = (0, S.handed o.f4.toNat (prt (mk + 1))) := by rw [Hmk.out]; exact e1
          rw [hτ] at this
          exact this
        · rw [Hmk.out]; exact e2
      · obtain ⟨e1, e2⟩ := HSS.out.refused HP2.out.ok id o.f4 (prt (mk + 1)) ht
        exact ⟨_, _, rfl, .inl ⟨ht, e1, e2⟩⟩
    obtain ⟨E, S', hSH, hcs⟩ := hcase
    have HSH := Lib.hid hSH
    have Hcs := Lib.hid hcs
    clear hSH hcs
    go_upto_region 8 with (fail)
    clear y5 z5 hu3 HP2 HG2 HU2 HX2
    generalize w2.setCell ⟨gs, 5, none⟩ (.int .i64 (mk + 1)) = w3 at *
    refine start_ (n := 11) (S := (fun w' => w'.cell? ⟨bo, 4, none⟩ = some (.int .i64 o.f4) ∧ w'.cell? ⟨gs, 5, none⟩ = some (.int .i64 (mk + 1)))) (ds := []) #[false, false, false, false, false, false, false, false, false, false, false] (by kernel_rfl) rfl rfl ⟨blk_at HX3.out 4 rfl, by rw [Hmk.out]; exact blk_at HG3.out.hb 5 rfl⟩ (fun hHeld => ?_)
    have hwd : Upd (fun _ => False) own1 w3 own1 w3.drew := Upd.drew
    have HPW := Lib.hid (HP3.out.upd (T := fun _ => False) (fun e => e) (fun e => e) hwd)
    have HGW := Lib.hid (HG3.out.upd (P := fun _ => False) (fun e => e) hwd)
    have HUW := Lib.hid (HU3.out.then (hwd.mono (fun _ h => h.elim)))
    have HXW : Hid (w3.drew.heap[bo]? = some (.cells #[.int .i64 o.f0, .bool o.f1, .bool o.f2, .int .i64 o.f3, .int .i64 o.f4, .int .i64 o.f5.f0.f0, .slice A6 o.f5.f0.f1.length c6, .slice A7 o.f5.f1.length c7, .slice A8 o.f5.f2.length c8, .bool o.f6] 57 (0, 0))) := HX3
    clear hwd HP3 HG3 HU3 HX3
    generalize w3.drew = W at *
    refine pure_ (i := 0) (N := some 51) (v := ?_) (a' := ?_) #[true, false, false, false, false, false, false, false, false, false, false] rfl rfl (by kernel_rfl) (fun _ _ _ h => h) (Or.inl ⟨by rfl, ?_⟩) ?_ ?_
    rotate_left
    · intro w'
      go_simp
      with_reducible rfl
    rotate_left
    · simp only [Act.put, List.setIfInBounds_toArray, List.set_cons_zero, List.set_cons_succ]
      rfl
    refine pure_ (i := 1) (N := some 52) (v := ?_) (a' := ?_) #[true, true, false, false, false, false, false, false, false, false, false] rfl rfl (by kernel_rfl) (fun _ _ _ h => h) (Or.inl ⟨by rfl, ?_⟩) ?_ ?_
    rotate_left
    · intro w'
      go_simp
      with_reducible rfl
    rotate_left
    · simp only [Act.put, List.setIfInBounds_toArray, List.set_cons_zero, List.set_cons_succ]
      rfl
    refine pure_ (i := 2) (N := some 53) (v := ?_) (a' := ?_) #[true, true, true, false, false, false, false, false, false, false, false] rfl rfl (by kernel_rfl) (fun _ _ _ h => h) (Or.inl ⟨by rfl, ?_⟩) ?_ ?_
    rotate_left
    · intro w'
      go_simp
      with_reducible rfl
    rotate_left
    · simp only [Act.put, List.setIfInBounds_toArray, List.set_cons_zero, List.set_cons_succ]
      rfl
    refine take_ (i := 3) (N := some 54) (v := ?_) (a' := ?_) #[true, true, true, true, false, false, false, false, false, false, false] rfl rfl (by kernel_rfl) (fun _ _ _ h => h) (Or.inl ⟨by rfl, ?_⟩) hHeld ?_ ?_
    rotate_left
    · rintro w' ⟨s0, s1⟩
      go_simp
      with_reducible rfl
    rotate_left
    · simp only [Act.put, List.setIfInBounds_toArray, List.set_cons_zero, List.set_cons_succ]
      rfl
    refine pure_ (i := 4) (N := some 55) (v := ?_) (a' := ?_) #[true, true, true, true, true, false, false, false, false, false, false] rfl rfl (by kernel_rfl) (fun _ _ _ h => h) (Or.inl ⟨by rfl, ?_⟩) ?_ ?_
    rotate_left
    · intro w'
      go_simp
      with_reducible rfl
    rotate_left
    · simp only [Act.put, List.setIfInBounds_toArray, List.set_cons_zero, List.set_cons_succ]
      rfl
    refine pure_ (i := 5) (N := some 56) (v := ?_) (a' := ?_) #[true, true, true, true, true, true, false, false, false, false, false] rfl rfl (by kernel_rfl) (fun _ _ _ h => h) (Or.inl ⟨by rfl, ?_⟩) ?_ ?_
    rotate_left
    · intro w'
      go_simp
      with_reducible rfl
    rotate_left
    · simp only [Act.put, List.setIfInBounds_toArray, List.set_cons_zero, List.set_cons_succ]
      rfl
    refine pure_ (i := 6) (N := some 57) (v := ?_) (a' := ?_) #[true, true, true, true, true, true, true, false, false, false, false] rfl rfl (by kernel_rfl) (fun _ _ _ h => h) (Or.inl ⟨by rfl, ?_⟩) ?_ ?_
    rotate_left
    · intro w'
      go_simp
      with_reducible rfl
    rotate_left
    · simp only [Act.put, List.setIfInBounds_toArray, List.set_cons_zero, List.set_cons_succ]
      rfl
    refine take_ (i := 7) (N := some 58) (v := ?_) (a' := ?_) #[true, true, true, true, true, true, true, true, false, false, false] rfl rfl (by kernel_rfl) (fun _ _ _ h => h) (Or.inl ⟨by rfl, ?_⟩) hHeld ?_ ?_
    rotate_left
    · rintro w' ⟨s0, s1⟩
      go_simp
      with_reducible rfl
    rotate_left
    · simp only [Act.put, List.setIfInBounds_toArray, List.set_cons_zero, List.set_cons_succ]
      rfl
    refine one_ (i := 8) (N := some 59) #[true, true, true, true, true, true, true, true, true, false, false] rfl rfl (by kernel_rfl) (by decide) (fun K hK => ?_)
    refine goes_ Try.func11 (by kernel_rfl) rfl #[.int .i64 (mk + 1)] (by rfl) rfl rfl (by simp only [List.map_toArray, List.map_cons, List.map_nil]; rfl) ?_
    refine (part11 (mk + 1) W).mono ?_
    rintro e w5 ⟨A1, c1, A2, c2, A3, c3, rfl, D1, D2, D3, hd1, hb⟩
    refine ⟨_, rfl, ?_⟩
    have hu5 : Upd (fun _ => False) own1 W own1 w5 := Upd.of_below' hb.out (fun _ _ => rfl)
    have HP5 := Lib.hid (HPW.out.upd (T := fun _ => False) (fun e => e) (fun e => e) hu5)
    have HG5 := Lib.hid (HGW.out.upd (P := fun _ => False) (fun e => e) hu5)
    have HU5 := Lib.hid (HUW.out.then (hu5.mono (fun _ h => h.elim)))
    have HX5 := Lib.hid (blk_below HXW.out hb.out)
    refine hK.out _ _ ⟨pw_cell_below hb.out hHeld.1, pw_cell_below hb.out hHeld.2⟩ (fun hHeld => ?_)
    clear hK K hb hu5 HPW HGW HUW HXW
    refine norm_ (a' := ?_) ?_ ?_
    rotate_left
    · show Act.put _ (some 59) _ = _
      simp only [Act.put, List.setIfInBounds_toArray, List.set_cons_zero, List.set_cons_succ]
      rfl
    refine one_ (i := 9) (N := some 60) #[true, true, true, true, true, true, true, true, true, true, false] rfl rfl (by kernel_rfl) (by decide) (fun K hK => ?_)
    refine goes_ Try.func10 (by kernel_rfl) rfl #[.pointer (some ⟨g, 0, none⟩), .int .i64 id, .int .i64 o.f4, .agg #[.int .i64 (prt (mk + 1)).f0.f0, .slice A1 (prt (mk + 1)).f0.f1.length c1, .slice A2 (prt (mk + 1)).f1.length c2, .slice A3 (prt (mk + 1)).f2.length c3]] (by rfl) rfl rfl (by simp only [List.map_toArray, List.map_cons, List.map_nil]; rfl) ?_
    have hh := hand10 own1 w5 g 1 S bm c bw bp nm s r pps pbuf HP5.out (by decide) id o.f4 (prt (mk + 1)) A1 c1 A2 c2 A3 c3 D1.out D2.out D3.out (prt_parts _)
    rw [HSH.out] at hh
    refine hh.mono ?_
    rintro e w6 ⟨rfl, own6, bm6, c6, bw6, bp6, nm6, s6, r6, pps6, pbuf6, hP, hU, hn⟩
    refine ⟨_, rfl, ?_⟩
    have HP6 := Lib.hid hP
    have HG6 := Lib.hid (HG5.out.upd (P := (· = 1)) (by decide) hU)
    have HU6 := Lib.hid (HU5.out.then (hU.mono (fun _ h => .inl h)))
    have HX6 := Lib.hid (hU.blk HX5.out (by rw [HTX.out]; decide))
    have HTX6 : Hid (own6 bo = 3) := Lib.hid ((hU.same bo (blk_lt HX5.out) (by rw [HTX.out]; decide)).trans HTX.out)
    have Hnm6 := Lib.hid hn
    refine hK.out _ _ ⟨blk_at HX6.out 4 rfl, by rw [Hmk.out]; exact blk_at HG6.out.hb 5 rfl⟩ (fun hHeld => ?_)
    clear hK K hh hP hU hn HP5 HG5 HU5 HX5 D1 D2 D3 hd1
    refine norm_ (a' := ?_) ?_ ?_
    rotate_left
    · show Act.put _ (some 60) _ = _
      simp only [Act.put, List.setIfInBounds_toArray, List.set_cons_zero, List.set_cons_succ]
      rfl
    refine pure_ (i := 10) (N := some 14) (v := ?_) (a' := ?_) #[true, true, true, true, true, true, true, true, true, true, true] rfl rfl (by kernel_rfl) (fun _ _ _ h => h) (Or.inl ⟨by rfl, ?_⟩) ?_ ?_
    rotate_left
    · intro w'
      go_simp
      with_reducible rfl
    rotate_left
    · simp only [Act.put, List.setIfInBounds_toArray, List.set_cons_zero, List.set_cons_succ]
      rfl
    refine done_ (by kernel_rfl) ?_
    clear hHeld
    go_upto_region 9 with (fail)
    have p4 : w6.cell? ⟨bo, 4, none⟩ = some (.int .i64 o.f4) := blk_at HX6.out 4 rfl
    have g0 : w6.cell? ⟨gs, 0, none⟩ = some (.int .i64 T.id) := blk_at HG6.out.hb 0 rfl
    have g1 : w6.cell? ⟨gs, 1, none⟩ = some v := blk_at HG6.out.hb 1 rfl
    rcases Hcs.out with ⟨hno, hE, hS⟩ | ⟨τ, hτ, htk, hE, hss'⟩
    · have HnoT := Lib.hid hno
      have k5 : (E == 0) = false := by simpa using hE
      have HS' := Lib.hid hS
      clear hno hE hS
      go_cut [15] (fun v15 wx => v15 = .bool false ∧ Hid (Below w6.heap.size w6 wx))
      case first =>
        by_cases a1 : 0 ≤ o.f4
        · have j1 : decide (0 ≤ o.f4) = true := decide_eq_true a1
          by_cases a2 : o.f4 < (n : Int)
          · have j2 : decide (o.f4 < (n : Int)) = true := decide_eq_true a2
            by_cases a3 : 0 < T.id
            · have j3 : decide (0 < T.id) = true := decide_eq_true a3
              by_cases a4 : id = T.id
              · have j4 : (id == T.id) = true := by simpa using a4
                obtain ⟨τ, hτ⟩ : ∃ τ : Nat, o.f4 = τ := ⟨o.f4.toNat, by omega⟩
                have a5 : T.hd.getD τ 0 ≠ 0 := fun h0 => HnoT.out ⟨⟨a1, a2⟩, a3, a4, by rw [hτ, Int.toNat_natCast]; exact h0⟩
                obtain ⟨hdl, gh, hv, hh, hgh⟩ := HG6.out.hv a3
                have hτn : τ < n := by omega
                have b0 : w6.cell? ⟨gh, τ, none⟩ = some (.int .i64 (T.hd.getD τ 0)) := blk_at hh τ (whC_get _ _ (by show τ < T.hd.length; have h9 : T.marked.hd.length = n := hdl; have h8 : T.hd.length = n := h9; omega))
                generalize T.hd.getD τ 0 = x9 at *
                have j5 : (x9 == 0) = false := by simpa using a5
                rw [hτ] at p4 j1 j2
                rw [hv] at g1
                clear a1 a2 a3 a4 a5 hτ hv hh hgh hdl
                go_quiet (fail)
                go_wp2_with (fail)
                go_meet
                exact ⟨by rfl, Lib.hid (pw_below_drewN (Below.refl _ _) _)⟩
              · have j4 : (id == T.id) = false := by simpa using a4
                clear a1 a2 a3 a4
                go_quiet (fail)
                go_wp2_with (fail)
                go_meet
                exact ⟨by rfl, Lib.hid (pw_below_drewN (Below.refl _ _) _)⟩
            · have j3 : decide (0 < T.id) = false := decide_eq_false a3
              clear a1 a2 a3
              go_quiet (fail)
              go_wp2_with (fail)
              go_meet
              exact ⟨by rfl, Lib.hid (pw_below_drewN (Below.refl _ _) _)⟩
          · have j2 : decide (o.f4 < (n : Int)) = false := decide_eq_false a2
            clear a1 a2
            go_quiet (fail)
            go_wp2_with (fail)
            go_meet
            exact ⟨by rfl, Lib.hid (pw_below_drewN (Below.refl _ _) _)⟩
        · have j1 : decide (0 ≤ o.f4) = false := decide_eq_false a1
          clear a1
          go_quiet (fail)
          go_wp2_with (fail)
          go_meet
          exact ⟨by rfl, Lib.hid (pw_below_drewN (Below.refl _ _) _)⟩
      case rest =>
      obtain ⟨rfl, HB7⟩ := hcut
      clear p4 g0 g1
      go_wp2_with (fail)
      go_ret
      have hu7 : Upd (fun _ => False) own6 w6 own6 wc := Upd.of_below' HB7.out (fun _ _ => rfl)
      have hS' := HS'.out
      subst hS'
      exact ⟨rfl, own6, _, T.marked, v, bm6, c6, bw6, bp6, nm6, s6, r6, pps6, pbuf6, Lib.hid (HP6.out.upd (T := fun _ => False) (fun e => e) (fun e => e) hu7), Lib.hid (HG6.out.upd (P := fun _ => False) (fun e => e) hu7), Lib.hid (HSS.out.marked), Lib.hid (HU6.out.then (hu7.mono (fun _ h => h.elim))), Nat.le_succ_of_le Hnm6.out, by show 0 ≤ T.marks + 1; have := HMK.out.1; omega, by show T.marks + 1 ≤ T.marks + 1; omega⟩
    · subst hE
      obtain ⟨⟨a1, a2⟩, a3, a4, a5⟩ := htk
      have Hss' := Lib.hid hss'
      obtain ⟨hdl, gh, hv, hh, hgh⟩ := HG6.out.hv a3
      have Hhdl : Hid (T.hd.length = n) := Lib.hid hdl
      have HH6 : Hid (w6.heap[gh]? = some (.cells (whC T.hd) 3 (0, 0))) := Lib.hid hh
      have Hgh := Lib.hid hgh
      have hτn : τ < n := by omega
      subst hv
      rw [hτ] at p4
      have j1 : decide ((0 : Int) ≤ (τ : Int)) = true := decide_eq_true a1
      have j2 : decide ((τ : Int) < (n : Int)) = true := decide_eq_true a2
      have j3 : decide (0 < T.id) = true := decide_eq_true a3
      have j4 : (id == T.id) = true := by simpa using a4
      have Ha3 := Lib.hid a3
      rw [Int.toNat_natCast] at a5
      have b0 : w6.cell? ⟨gh, τ, none⟩ = some (.int .i64 0) := (blk_at hh τ (whC_get _ _ (by show τ < T.hd.length; have h9 : T.marked.hd.length = n := hdl; have h8 : T.hd.length = n := h9; omega))).trans (by show some (Value.int .i64 (T.hd.getD τ 0)) = _; rw [a5])
      have Hτ := Lib.hid hτ
      clear a1 a2 a3 a4 a5 hdl hh hgh hss' hτ
      go_cut [15] (fun v15 wx => v15 = .bool true ∧ Hid (Below w6.heap.size w6 wx))
      case first =>
        go_quiet (fail)
        go_wp2_with (fail)
        go_meet
        exact ⟨by rfl, Lib.hid (pw_below_drewN (Below.refl _ _) _)⟩
      case rest =>
      obtain ⟨rfl, HB7⟩ := hcut
      have hu7 : Upd (fun _ => False) own6 w6 own6 wc := Upd.of_below' HB7.out (fun _ _ => rfl)
      have HP7 := Lib.hid (HP6.out.upd (T := fun _ => False) (fun e => e) (fun e => e) hu7)
      have HG7 := Lib.hid (HG6.out.upd (P := fun _ => False) (fun e => e) hu7)
      have HU7 := Lib.hid (HU6.out.then (hu7.mono (fun _ h => h.elim)))
      have HH7 := Lib.hid (blk_below HH6.out HB7.out)
      replace p4 := pw_cell_below HB7.out p4
      clear g0 g1 b0 hu7 HP6 HG6 HU6 HH6 HB7 j1 j2 j3 j4
      go_upto_region 11 with (fail)
      refine start_ (n := 12) (S := (fun w' => w'.cell? ⟨gs, 1, none⟩ = some (.slice (some ⟨gh, 0, none⟩) n n) ∧ w'.cell? ⟨bo, 4, none⟩ = some (.int .i64 τ) ∧ w'.cell? ⟨gs, 5, none⟩ = some (.int .i64 (mk + 1)))) (ds := [11]) #[false, false, false, false, false, false, false, false, false, false, false, false] (by kernel_rfl) rfl rfl ⟨blk_at HG7.out.hb 1 rfl, p4, by rw [Hmk.out]; exact blk_at HG7.out.hb 5 rfl⟩ (fun hHeld => ?_)
      have hwd : Upd (fun _ => False) own6 wc own6 wc.drew := Upd.drew
      have HP8 := Lib.hid (HP7.out.upd (T := fun _ => False) (fun e => e) (fun e => e) hwd)
      have HG8 := Lib.hid (HG7.out.upd (P := fun _ => False) (fun e => e) hwd)
      have HU8 := Lib.hid (HU7.out.then (hwd.mono (fun _ h => h.elim)))
      have HH8 := Lib.hid (hwd.blk HH7.out (fun e => e))
      clear hwd HP7 HG7 HU7 HH7
      generalize wc.drew = W at *
      refine pure_ (i := 0) (N := some 97) (v := ?_) (a' := ?_) #[true, false, false, false, false, false, false, false, false, false, false, false] rfl rfl (by kernel_rfl) (fun _ _ _ h => h) (Or.inl ⟨by rfl, ?_⟩) ?_ ?_
      rotate_left
      · intro w'
        go_simp
        with_reducible rfl
      rotate_left
      · simp only [Act.put, List.setIfInBounds_toArray, List.set_cons_zero, List.set_cons_succ]
        rfl
      refine pure_ (i := 1) (N := some 98) (v := ?_) (a' := ?_) #[true, true, false, false, false, false, false, false, false, false, false, false] rfl rfl (by kernel_rfl) (fun _ _ _ h => h) (Or.inl ⟨by rfl, ?_⟩) ?_ ?_
      rotate_left
      · intro w'
        go_simp
        with_reducible rfl
      rotate_left
      · simp only [Act.put, List.setIfInBounds_toArray, List.set_cons_zero, List.set_cons_succ]
        rfl
      refine pure_ (i := 2) (N := some 99) (v := ?_) (a' := ?_) #[true, true, true, false, false, false, false, false, false, false, false, false] rfl rfl (by kernel_rfl) (fun _ _ _ h => h) (Or.inl ⟨by rfl, ?_⟩) ?_ ?_
      rotate_left
      · intro w'
        go_simp
        with_reducible rfl
      rotate_left
      · simp only [Act.put, List.setIfInBounds_toArray, List.set_cons_zero, List.set_cons_succ]
        rfl
      refine take_ (i := 3) (N := some 100) (v := ?_) (a' := ?_) #[true, true, true, true, false, false, false, false, false, false, false, false] rfl rfl (by kernel_rfl) (fun _ _ _ h => h) (Or.inl ⟨by rfl, ?_⟩) hHeld ?_ ?_
      rotate_left
      · rintro w' ⟨s0, s1, s2⟩
        go_simp
        with_reducible rfl
      rotate_left
      · simp only [Act.put, List.setIfInBounds_toArray, List.set_cons_zero, List.set_cons_succ]
        rfl
      refine pure_ (i := 4) (N := some 101) (v := ?_) (a' := ?_) #[true, true, true, true, true, false, false, false, false, false, false, false] rfl rfl (by kernel_rfl) (fun _ _ _ h => h) (Or.inl ⟨by rfl, ?_⟩) ?_ ?_
      rotate_left
      · intro w'
        go_simp
        with_reducible rfl
      rotate_left
      · simp only [Act.put, List.setIfInBounds_toArray, List.set_cons_zero, List.set_cons_succ]
        rfl
      refine take_ (i := 5) (N := some 102) (v := ?_) (a' := ?_) #[true, true, true, true, true, true, false, false, false, false, false, false] rfl rfl (by kernel_rfl) (fun _ _ _ h => h) (Or.inl ⟨by rfl, ?_⟩) hHeld ?_ ?_
      rotate_left
      · rintro w' ⟨s0, s1, s2⟩
        go_simp
        with_reducible rfl
      rotate_left
      · simp only [Act.put, List.setIfInBounds_toArray, List.set_cons_zero, List.set_cons_succ]
        rfl
      refine pure_ (i := 6) (N := some 103) (v := ?_) (a' := ?_) #[true, true, true, true, true, true, true, false, false, false, false, false] rfl rfl (by kernel_rfl) (fun _ _ _ h => h) (Or.inl ⟨by rfl, ?_⟩) ?_ ?_
      rotate_left
      · intro w'
        go_simp
        with_reducible rfl
      rotate_left
      · simp only [Act.put, List.setIfInBounds_toArray, List.set_cons_zero, List.set_cons_succ]
        rfl
      refine pure_ (i := 7) (N := some 104) (v := ?_) (a' := ?_) #[true, true, true, true, true, true, true, true, false, false, false, false] rfl rfl (by kernel_rfl) (fun _ _ _ h => h) (Or.inl ⟨by rfl, ?_⟩) ?_ ?_
      rotate_left
      · intro w'
        go_simp
        with_reducible rfl
      rotate_left
      · simp only [Act.put, List.setIfInBounds_toArray, List.set_cons_zero, List.set_cons_succ]
        rfl
      refine pure_ (i := 8) (N := some 105) (v := ?_) (a' := ?_) #[true, true, true, true, true, true, true, true, true, false, false, false] rfl rfl (by kernel_rfl) (fun _ _ _ h => h) (Or.inl ⟨by rfl, ?_⟩) ?_ ?_
      rotate_left
      · intro w'
        go_simp
        with_reducible rfl
      rotate_left
      · simp only [Act.put, List.setIfInBounds_toArray, List.set_cons_zero, List.set_cons_succ]
        rfl
      refine take_ (i := 9) (N := some 106) (v := ?_) (a' := ?_) #[true, true, true, true, true, true, true, true, true, true, false, false] rfl rfl (by kernel_rfl) (fun _ _ _ h => h) (Or.inl ⟨by rfl, ?_⟩) hHeld ?_ ?_
      rotate_left
      · rintro w' ⟨s0, s1, s2⟩
        go_simp
        with_reducible rfl
      rotate_left
      · simp only [Act.put, List.setIfInBounds_toArray, List.set_cons_zero, List.set_cons_succ]
        rfl
      refine pure_ (i := 10) (N := some 107) (v := ?_) (a' := ?_) #[true, true, true, true, true, true, true, true, true, true, true, false] rfl rfl (by kernel_rfl) (fun _ _ _ h => h) (Or.inl ⟨by rfl, ?_⟩) ?_ ?_
      rotate_left
      · intro w'
        go_simp
        with_reducible rfl
      rotate_left
      · simp only [Act.put, List.setIfInBounds_toArray, List.set_cons_zero, List.set_cons_succ]
        rfl
      refine last_ (i := 11) (N := none) #[true, true, true, true, true, true, true, true, true, true, true, true] rfl rfl (by kernel_rfl) (by decide) (fun K hK => ?_)
      have y0 : W.cell? ⟨gh, τ, none⟩ = some (.int .i64 (T.hd.getD τ 0)) := blk_at HH8.out τ (whC_get _ _ (by rw [Hhdl.out]; exact hτn))
      have z0 : W.frozen? ⟨gh, τ, none⟩ = false := blk_frozen HH8.out τ
      refine skip_ (w1 := W.setCell ⟨gh, τ, none⟩ (.int .i64 (mk + 1))) (by rfl) rfl (by go_simp) ?_
      refine hK.out _ _ ?_
      clear hK K y0 z0
      refine done_ (by kernel_rfl) ?_
      clear hHeld
      have hu9 : Upd (· = 2) own6 W own6 (W.setCell ⟨gh, τ, none⟩ (.int .i64 (mk + 1))) := set_own Hgh.out τ _
      have hne : gs ≠ gh := blk_ne HG8.out.hb HH8.out (by decide)
      have HG9 : Hid ((W.setCell ⟨gh, τ, none⟩ (.int .i64 (mk + 1))).heap[gs]? = some (.cells #[.int .i64 T.id, .slice (some ⟨gh, 0, none⟩) n n, .int .i64 T.count, .int .i64 T.picked, .int .i64 T.next, .int .i64 (T.marks + 1)] 54 (0, 0))) := Lib.hid ((set_far _ _ _ hne).trans HG8.out.hb)
      have HH9 : Hid ((W.setCell ⟨gh, τ, none⟩ (.int .i64 (mk + 1))).heap[gh]? = some (.cells (whC (T.hd.set τ (mk + 1))) 3 (0, 0))) := Lib.hid ((blk_set HH8.out τ _).trans (by rw [whC_set]))
      have HP9 := Lib.hid (HP8.out.upd (T := (· = 2)) (by decide) (by decide) hu9)
      have HU9 := Lib.hid (HU8.out.then (hu9.mono (fun _ h => .inr h)))
      have Hog := Lib.hid HG8.out.og
      have hcb : -1 ≤ T.count ∧ T.count ≤ 12 := by
        have h1 := Hss'.out.cb (show 0 < T.id from Ha3.out)
        have h2 := Hss'.out.pk (show 0 < T.id from Ha3.out)
        have h3 := HP9.out.lb
        have h4 : pbuf6.length = S'.buf.length := by rw [← HP9.out.e2, List.length_map]
        have h5 : (S'.buf.length : Int) + T.picked = T.count + 1 := h1
        have h6 : T.picked = (S'.wh.count 2 : Nat) := h2
        have h7 : S'.wh.count 2 ≤ S'.wh.length := List.count_le_length
        have h8 : (S'.buf.map (·.1)).length + S'.wh.count 2 ≤ S'.wh.length := bufs_two HP9.out.ok
        rw [HP9.out.ok.lw, Hss'.out.en] at h8
        rw [List.length_map] at h8
        omega
      have hc0 := hcb.1
      have hc1 := hcb.2
      clear hu9 hne hcb HG8 HU8 HP8 HH8
      generalize W.setCell ⟨gh, τ, none⟩ (.int .i64 (mk + 1)) = w9 at *
      have y2 : w9.cell? ⟨gs, 2, none⟩ = some (.int .i64 T.count) := blk_at HG9.out 2 rfl
      have z2 : w9.frozen? ⟨gs, 2, none⟩ = false := blk_frozen HG9.out 2
      go_wp2_with (fail)
      go_ret
      have hu10 : Upd (· = 2) own6 w9 own6 (w9.setCell ⟨gs, 2, none⟩ (.int .i64 (T.count + 1))) := set_own Hog.out 2 _
      have hSt : StAt own6 (w9.setCell ⟨gs, 2, none⟩ (.int .i64 (T.count + 1))) gs n (T.marked.tookIn τ) (.slice (some ⟨gh, 0, none⟩) n n) := by
        refine ⟨blk_put HG9.out 2 _ rfl, Hog.out, fun _ => ⟨by show (T.hd.set τ (T.marks + 1)).length = n; rw [List.length_set]; exact Hhdl.out, gh, rfl, ?_, Hgh.out⟩⟩
        have h1 := (set_far w9 ⟨gs, 2, none⟩ (.int .i64 (T.count + 1)) (blk_ne HH9.out HG9.out (by decide))).trans HH9.out
        rw [Hmk.out] at h1
        exact h1
      exact ⟨rfl, own6, _, _, _, bm6, c6, bw6, bp6, nm6, s6, r6, pps6, pbuf6, Lib.hid (HP9.out.upd (T := (· = 2)) (by decide) (by decide) hu10), Lib.hid hSt, Lib.hid (Hss'.out), Lib.hid (HU9.out.then (hu10.mono (fun _ h => .inr h))), Nat.le_succ_of_le Hnm6.out, by show 0 ≤ T.marks + 1; have := HMK.out.1; omega, by show T.marks + 1 ≤ T.marks + 1; omega⟩
  have k2 : (o.f0 == 2) = false := by simpa using h1
  clear h1
  by_cases h1 : o.f0 = 3
  · have k3 : (o.f0 == 3) = true := by simpa using h1
    have HH := Lib.hid (pick12 own1 w2 g 1 S bm c bw bp nm s r pps pbuf HP2.out (by decide) (by have := Hnm.out; omega))
    clear h1
    unfold PickAns at HH
    rcases hbuf : S.buf with _ | ⟨⟨t, x⟩, rest⟩
    · rw [hbuf] at HH
      have Hc := Lib.hid ((HSS.out.none HP2.out.ok).1 hbuf)
      clear hbuf
      go_wp2_with (first
        | (go_at_call 12; refine HH.out.mono ?_; rintro e w3 ⟨rfl, own3, bm3, c3, bw3, bp3, nm3, s3, r3, pps3, pbuf3, hP, hU, hn⟩
           have HP3 := Lib.hid hP
           have HG3 := Lib.hid (HG2.out.upd (P := (· = 1)) (by decide) hU)
           have HU3 := Lib.hid (HU2.out.then (hU.mono (fun _ h => .inl h)))
           have Hnm3 := Lib.hid hn
           clear hP hU hn)
        | (go_at_call 33; refine (story33_none own3 _ gs n T v (HG3.out.upd (P := fun _ => False) (fun e => e) (Upd.box (.cells #[.int .i64 0, .int .u32 0, .slice none 0 0] 44))) sum Hc.out).mono ?_; rintro e w4 ⟨rfl, hb⟩
           have hu4 : Upd (fun _ => False) own3 (w3.alloc (.cells #[.int .i64 0, .int .u32 0, .slice none 0 0] 44)) own3 w4 := Upd.of_below' hb.out (fun _ _ => rfl)
           have HP4 := Lib.hid ((HP3.out.upd (T := fun _ => False) (fun e => e) (fun e => e) (Upd.box (.cells #[.int .i64 0, .int .u32 0, .slice none 0 0] 44))).upd (T := fun _ => False) (fun e => e) (fun e => e) hu4)
           have HG4 := Lib.hid ((HG3.out.upd (P := fun _ => False) (fun e => e) (Upd.box (.cells #[.int .i64 0, .int .u32 0, .slice none 0 0] 44))).upd (P := fun _ => False) (fun e => e) hu4)
           have HU4 := Lib.hid ((HU3.out.then (Upd.box (.cells #[.int .i64 0, .int .u32 0, .slice none 0 0] 44))).then (hu4.mono (fun _ h => h.elim)))
           clear hb hu4))
      go_ret
      exact ⟨rfl, own3, S, T, v, bm3, c3, bw3, bp3, nm3, s3, r3, pps3, pbuf3, HP4, HG4, Lib.hid (HSS.out), HU4, Nat.le_succ_of_le Hnm3.out, HMK.out.1, (show T.marks ≤ T.marks + 1 by omega)⟩
    · rw [hbuf] at HH
      simp only [] at HH
      obtain ⟨hp, hsp, hall, hle, hge⟩ := HSS.out.took HP2.out.ok hbuf
      have Hm : Hid (more T) := Lib.hid (fun hc => by have := (HSS.out.none HP2.out.ok).2 hc; rw [hbuf] at this; cases this)
      have Hp := Lib.hid hp
      have Hsp := Lib.hid hsp
      have Hle := Lib.hid hle
      have Hge := Lib.hid hge
      have hun : S.under = T.id := HSS.out.un
      have hsm : S.sum = sum := HSS.out.sm
      have Hok := Lib.hid HP2.out.ok
      clear hp hsp hle hge hbuf
      by_cases ha : (S.took t x).all2 = true
      · simp only [if_pos ha] at HH
        have Hk := Lib.hid (hall.1 ha)
        have Hfull : Hid (∀ t', t' < n → (S.took t x).ps.getD t' z40 = prt (T.hd.getD t' 0)) := Lib.hid (fun t' ht' => Hsp.out.full2 ha Hp.out t' ht' Hok.out)
        have Hpl : Hid ((S.took t x).ps.length = n) := Lib.hid (by show (S.ps.set t x).length = n; rw [List.length_set, Hok.out.lp, HSS.out.en])
        simp only [hun, hsm] at HH
        clear ha hall hun hsm
        go_wp2_with (first
          | (go_at_call 12; refine HH.out.mono ?_; rintro e w3 ⟨own3, bm3, c3, bw3, bp3, nm3, s3, r3, pps3, pbuf3, v3, rfl, ⟨A3, cv, rfl, hcv, hS3⟩, hP, hU, hn⟩
             rw [Hpl.out] at hS3 ⊢
             have HS3 := Lib.hid hS3
             have HP3 := Lib.hid hP
             have HG3 := Lib.hid (HG2.out.upd (P := (· = 1)) (by decide) hU)
             have HU3 := Lib.hid (HU2.out.then (hU.mono (fun _ h => .inl h)))
             have Hnm3 := Lib.hid hn
             clear hP hU hn
             clear hS3 hcv)
          | (go_at_call 33; refine (story33_last own3 _ gs n T v (HG3.out.upd (P := fun _ => False) (fun e => e) (Upd.box (.cells #[.int .i64 T.id, .int .u32 sum, .slice A3 n cv] 44))) sum Hm.out Hk.out Hp.out hn12 A3 cv (S.took t x).ps (HS3.out.upd (S := fun _ => False) (fun e => e) (Upd.box (.cells #[.int .i64 T.id, .int .u32 sum, .slice A3 n cv] 44))) Hfull.out).mono ?_; rintro e w4 ⟨rfl, own4, HG4, hu4⟩
             have HP4 := Lib.hid ((HP3.out.upd (T := fun _ => False) (fun e => e) (fun e => e) (Upd.box (.cells #[.int .i64 T.id, .int .u32 sum, .slice A3 n cv] 44))).upd (T := (· = 2)) (by decide) (by decide) hu4.out)
             have HU4 := Lib.hid ((HU3.out.then (Upd.box (.cells #[.int .i64 T.id, .int .u32 sum, .slice A3 n cv] 44))).then (hu4.out.mono (fun _ h => .inr h)))
             clear hu4))
        go_ret
        exact ⟨rfl, own4, _, _, _, bm3, c3, bw3, bp3, nm3, s3, r3, pps3, pbuf3, HP4, HG4, Lib.hid (Hsp.out.shot), HU4, Hnm3.out, HMK.out.1, (show T.marks ≤ T.marks + 1 by omega)⟩
      · simp only [if_neg ha] at HH
        have Hk : Hid (T.picked + 1 < (n : Int)) := Lib.hid (by have h1 := Hle.out; by_cases he : T.picked + 1 = (n : Int); exact absurd (hall.2 he) ha; omega)
        clear ha hall hun hsm
        go_wp2_with (first
          | (go_at_call 12; refine HH.out.mono ?_; rintro e w3 ⟨rfl, own3, bm3, c3, bw3, bp3, nm3, s3, r3, pps3, pbuf3, hP, hU, hn⟩
             have HP3 := Lib.hid hP
             have HG3 := Lib.hid (HG2.out.upd (P := (· = 1)) (by decide) hU)
             have HU3 := Lib.hid (HU2.out.then (hU.mono (fun _ h => .inl h)))
             have Hnm3 := Lib.hid hn
             clear hP hU hn)
          | (go_at_call 33; refine (story33_more own3 _ gs n T v (HG3.out.upd (P := fun _ => False) (fun e => e) (Upd.box (.cells #[.int .i64 0, .int .u32 0, .slice none 0 0] 44))) sum Hm.out Hk.out Hge.out hn12).mono ?_; rintro e w4 ⟨rfl, own4, HG4, hu4⟩
             have HP4 := Lib.hid ((HP3.out.upd (T := fun _ => False) (fun e => e) (fun e => e) (Upd.box (.cells #[.int .i64 0, .int .u32 0, .slice none 0 0] 44))).upd (T := (· = 2)) (by decide) (by decide) hu4.out)
             have HU4 := Lib.hid ((HU3.out.then (Upd.box (.cells #[.int .i64 0, .int .u32 0, .slice none 0 0] 44))).then (hu4.out.mono (fun _ h => .inr h)))
             clear hu4))
        go_ret
        exact ⟨rfl, own4, _, _, _, bm3, c3, bw3, bp3, nm3, s3, r3, pps3, pbuf3, HP4, HG4, Lib.hid (Hsp.out), HU4, Nat.le_succ_of_le Hnm3.out, HMK.out.1, (show T.marks ≤ T.marks + 1 by omega)⟩
  have k3 : (o.f0 == 3) = false := by simpa using h1
  clear h1
  by_cases h1 : o.f0 = 4
  · have k4 : (o.f0 == 4) = true := by simpa using h1
    have HH := Lib.hid (abort22 own1 w2 g 1 S bm c bw bp nm s r pps pbuf HP2.out (by decide) (by have := Hnm.out; omega))
    clear h1
    obtain ⟨a1, a2, a3⟩ := HSS.out.abort HP2.out.ok
    have Ha3 := Lib.hid a3
    rw [a1] at HH
    have hpos := HSS.out.pos HP2.out.ok
    have hE : (decide (0 < T.id) = true ∧ (S.abort.2.1 == 0) = true) ∨ (decide (0 < T.id) = false ∧ (S.abort.2.1 == 0) = false) := by
      rcases hpos with hp | hp
      · exact .inl ⟨decide_eq_true hp, by simpa using a2.1 hp⟩
      · refine .inr ⟨decide_eq_false (by omega), ?_⟩
        simp only [beq_eq_false_iff_ne]
        intro he
        have := a2.2 he
        omega
    generalize S.abort.2.1 = E at *
    clear a1 a2 a3 hpos
    rcases hE with ⟨j1, j2⟩ | ⟨j1, j2⟩
    · go_wp2_with (go_at_call 22; refine HH.out.mono ?_; rintro e w3 ⟨rfl, own3, bm3, c3, bw3, bp3, nm3, s3, r3, pps3, pbuf3, hP, hU, hn⟩
                   have y0 : w3.cell? ⟨gs, 0, none⟩ = some (.int .i64 T.id) := (hU.blk HG2.out.hb (by rw [HG2.out.og]; decide)) |> fun hb => blk_at hb 0 rfl
                   have z0 : w3.frozen? ⟨gs, 0, none⟩ = false := (hU.blk HG2.out.hb (by rw [HG2.out.og]; decide)) |> fun hb => blk_frozen hb 0
                   have HP3 := Lib.hid hP
                   have HG3 := Lib.hid (HG2.out.upd (P := (· = 1)) (by decide) hU)
                   have HU3 := Lib.hid (HU2.out.then (hU.mono (fun _ h => .inl h)))
                   have Hnm3 := Lib.hid hn
                   clear hP hU hn)
      go_ret
      have hu4 : Upd (· = 2) own3 w3 own3 (w3.setCell ⟨gs, 0, none⟩ (.int .i64 0)) := set_own HG3.out.og 0 _
      exact ⟨rfl, own3, _, T.over, v, bm3, c3, bw3, bp3, nm3, s3, r3, pps3, pbuf3, Lib.hid (HP3.out.upd (T := (· = 2)) (by decide) (by decide) hu4), Lib.hid (HG3.out.put 0 _ rfl rfl (fun h => absurd h (by show ¬ (0 : Int) < 0; decide))), Lib.hid (Ha3.out), Lib.hid (HU3.out.then (hu4.mono (fun _ h => .inr h))), Hnm3.out, HMK.out.1, (show T.marks ≤ T.marks + 1 by omega)⟩
    · go_wp2_with (go_at_call 22; refine HH.out.mono ?_; rintro e w3 ⟨rfl, own3, bm3, c3, bw3, bp3, nm3, s3, r3, pps3, pbuf3, hP, hU, hn⟩
                   have y0 : w3.cell? ⟨gs, 0, none⟩ = some (.int .i64 T.id) := (hU.blk HG2.out.hb (by rw [HG2.out.og]; decide)) |> fun hb => blk_at hb 0 rfl
                   have z0 : w3.frozen? ⟨gs, 0, none⟩ = false := (hU.blk HG2.out.hb (by rw [HG2.out.og]; decide)) |> fun hb => blk_frozen hb 0
                   have HP3 := Lib.hid hP
                   have HG3 := Lib.hid (HG2.out.upd (P := (· = 1)) (by decide) hU)
                   have HU3 := Lib.hid (HU2.out.then (hU.mono (fun _ h => .inl h)))
                   have Hnm3 := Lib.hid hn
                   clear hP hU hn)
      go_ret
      have hu4 : Upd (· = 2) own3 w3 own3 (w3.setCell ⟨gs, 0, none⟩ (.int .i64 0)) := set_own HG3.out.og 0 _
      exact ⟨rfl, own3, _, T.over, v, bm3, c3, bw3, bp3, nm3, s3, r3, pps3, pbuf3, Lib.hid (HP3.out.upd (T := (· = 2)) (by decide) (by decide) hu4), Lib.hid (HG3.out.put 0 _ rfl rfl (fun h => absurd h (by show ¬ (0 : Int) < 0; decide))), Lib.hid (Ha3.out), Lib.hid (HU3.out.then (hu4.mono (fun _ h => .inr h))), Hnm3.out, HMK.out.1, (show T.marks ≤ T.marks + 1 by omega)⟩
  have k4 : (o.f0 == 4) = false := by simpa using h1
  clear h1
  go_wp2_with (fail)
  go_ret
  exact ⟨rfl, own1, S, T, v, bm, c, bw, bp, nm, s, r, pps, pbuf, HP2, HG2, HSS, HU2, Nat.le_succ nm, HMK.out.1, (show T.marks ≤ T.marks + 1 by omega)⟩
end Go.Proofs.Ytcbaiplamaopeaa.PPostShots
