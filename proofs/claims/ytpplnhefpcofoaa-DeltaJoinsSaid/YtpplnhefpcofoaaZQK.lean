/- DeltaJoins, walked. -/
import Derived.Test.YtpplnhefpcofoaaZQJ
import Derived.Test.YtpplnhefpcofoaaZCT
namespace Go.Proofs.Ytpplnhefpcofoaa.PDeltaJoin
open Go.RowKit Go.Proofs.YtpplnhefpcofoaaW.PrintWords Go.Proofs.YtpplnhefpcofoaaW.PrintLast
set_option linter.unusedVariables false
set_option linter.unusedSimpArgs false

def Law4 (w : World) (e : Ending) (w' : World) : Prop := e = .returned (.bool true) ∧ Below w.heap.size w w'
/-- A delta, answered in rows of its own. -/
def DlR (d : S27) (w : World) (e : Ending) (w' : World) : Prop := ∃ A c B k, e = .returned (.agg #[.int .i64 d.f0, .slice A d.f1.length c, .slice B d.f2.length k]) ∧ Hid (Kd.R k63 63 w' w.heap.size (fun _ => True) (.slice A d.f1.length c) d.f1) ∧ Hid (Kd.R Kd.string 9 w' w.heap.size (fun _ => True) (.slice B d.f2.length k) d.f2) ∧ Hid (Below w.heap.size w w')
theorem copyD13 (d : S27) (A B : Option Addr) (c k : Nat) (w : World) (hA : Kd.C k63 w A d.f1.length d.f1) (hB : Kd.C Kd.string w B d.f2.length d.f2) (hc : d.f1.length ≤ c) (hk : d.f2.length ≤ k) (hp : partsC d.f1 ≤ 100000) (hg : d.f2.length ≤ 100000) : Calls Try.prog 13 #[.agg #[.int .i64 d.f0, .slice A d.f1.length c, .slice B d.f2.length k]] w fun e w' => DlR d w e w' := by
  obtain ⟨K, hK⟩ := copy_some d hp hg
  refine (eddyref11_Copy.calls K d.f0 A c d.f1 B k d.f2 d.f0 d.f1 d.f2 w hA hc hB hk hK).mono ?_
  rintro e w' ⟨v, v2, rfl, hr, hr2, hb⟩
  obtain ⟨A', c', rfl⟩ := Kd.R_slice hr
  obtain ⟨B', k', rfl⟩ := Kd.R_slice hr2
  exact ⟨A', c', B', k', rfl, Lib.hid hr, Lib.hid hr2, Lib.hid hb⟩
theorem litD2r (d e : S27) (A1 B1 A2 B2 : Option Addr) (c1 k1 c2 k2 : Nat) (w : World) (b : Nat) (h1 : Kd.C k63 w A1 d.f1.length d.f1) (h2 : Kd.C Kd.string w B1 d.f2.length d.f2) (h3 : Kd.C k63 w A2 e.f1.length e.f1) (h4 : Kd.C Kd.string w B2 e.f2.length e.f2)
    (l1 : d.f1.length ≤ c1) (l2 : d.f2.length ≤ k1) (l3 : e.f1.length ≤ c2) (l4 : e.f2.length ≤ k2)
    (hb : w.heap[b]? = some (.cells #[.int .i64 d.f0, .slice A1 d.f1.length c1, .slice B1 d.f2.length k1, .int .i64 e.f0, .slice A2 e.f1.length c2, .slice B2 e.f2.length k2] 27 (0, 0))) : Kd.C k27 w (some ⟨b, 0, none⟩) [d, e].length [d, e] := by
  refine lit_C k27 (inner := [.int .i64 d.f0, .slice A1 d.f1.length c1, .slice B1 d.f2.length k1, .int .i64 e.f0, .slice A2 e.f1.length c2, .slice B2 e.f2.length k2]) ?_ hb (by simp)
  have r1 := Reps.snoc (Reps.none _ k27.sz) (k27_mk w d l1 h1 l2 h2) rfl
  exact Reps.snoc r1 (k27_mk w e l3 h3 l4 h4) rfl
set_option maxRecDepth 100000 in
set_option maxHeartbeats 16000000 in
theorem deltaJoins_walk (d e : S27) (A1 B1 A2 B2 : Option Addr) (c1 k1 c2 k2 : Nat) (w : World) (h0 : Kd.C k63 w A1 d.f1.length d.f1) (h1 : Kd.C Kd.string w B1 d.f2.length d.f2) (h2 : Kd.C k63 w A2 e.f1.length e.f1) (h3 : Kd.C Kd.string w B2 e.f2.length e.f2) (l0 : d.f1.length ≤ c1) (l1 : d.f2.length ≤ k1) (l2 : e.f1.length ≤ c2) (l3 : e.f2.length ≤ k2) :
    Calls Try.prog 4 #[.agg #[.int .i64 d.f0, .slice A1 d.f1.length c1, .slice B1 d.f2.length k1], .agg #[.int .i64 e.f0, .slice A2 e.f1.length c2, .slice B2 e.f2.length k2]] w fun e' w' => Law4 w e' w' := by
  have H0 : Hid (((w.alloc (.cells #[.int .i64 d.f0, .slice A1 d.f1.length c1, .slice B1 d.f2.length k1] 27)).alloc (.cells #[.int .i64 e.f0, .slice A2 e.f1.length c2, .slice B2 e.f2.length k2] 27)).heap[w.heap.size]? = some (.cells #[.int .i64 d.f0, .slice A1 d.f1.length c1, .slice B1 d.f2.length k1] 27 (0, 0))) := Lib.hid (blk_alloc (blk_new w _) _)
  have H1 : Hid (((w.alloc (.cells #[.int .i64 d.f0, .slice A1 d.f1.length c1, .slice B1 d.f2.length k1] 27)).alloc (.cells #[.int .i64 e.f0, .slice A2 e.f1.length c2, .slice B2 e.f2.length k2] 27)).heap[w.heap.size + 1]? = some (.cells #[.int .i64 e.f0, .slice A2 e.f1.length c2, .slice B2 e.f2.length k2] 27 (0, 0))) := Lib.hid (by
    have := blk_new (w.alloc (.cells #[.int .i64 d.f0, .slice A1 d.f1.length c1, .slice B1 d.f2.length k1] 27)) (.cells #[.int .i64 e.f0, .slice A2 e.f1.length c2, .slice B2 e.f2.length k2] 27)
    rw [World.size_alloc] at this
    exact this)
  have HB : Hid (Below w.heap.size w ((w.alloc (.cells #[.int .i64 d.f0, .slice A1 d.f1.length c1, .slice B1 d.f2.length k1] 27)).alloc (.cells #[.int .i64 e.f0, .slice A2 e.f1.length c2, .slice B2 e.f2.length k2] 27))) := Lib.hid (((Below.refl _ w).alloc (Nat.le_refl _) _).alloc (by simp) _)
  have HF : Hid (∀ W, Below w.heap.size w W → Calls Try.prog 11 #[.slice (some ⟨W.heap.size, 0, none⟩) 2 2] (W.alloc (.cells #[.int .i64 d.f0, .slice A1 d.f1.length c1, .slice B1 d.f2.length k1, .int .i64 e.f0, .slice A2 e.f1.length c2, .slice B2 e.f2.length k2] 27)) fun e' w' => ∃ b, e' = .returned (.bool b) ∧ Hid (b = true → partsC d.f1 ≤ 10000 ∧ d.f2.length ≤ 10000 ∧ partsC e.f1 ≤ 10000 ∧ e.f2.length ≤ 10000) ∧ Hid (Below (W.alloc (.cells #[.int .i64 d.f0, .slice A1 d.f1.length c1, .slice B1 d.f2.length k1, .int .i64 e.f0, .slice A2 e.f1.length c2, .slice B2 e.f2.length k2] 27)).heap.size (W.alloc (.cells #[.int .i64 d.f0, .slice A1 d.f1.length c1, .slice B1 d.f2.length k1, .int .i64 e.f0, .slice A2 e.f1.length c2, .slice B2 e.f2.length k2] 27)) w')) := Lib.hid (fun W h => by
    have hb : Below w.heap.size w (W.alloc (.cells #[.int .i64 d.f0, .slice A1 d.f1.length c1, .slice B1 d.f2.length k1, .int .i64 e.f0, .slice A2 e.f1.length c2, .slice B2 e.f2.length k2] 27)) := h.alloc h.size _
    have := deltas11 [d, e] (some ⟨W.heap.size, 0, none⟩) 2 (W.alloc (.cells #[.int .i64 d.f0, .slice A1 d.f1.length c1, .slice B1 d.f2.length k1, .int .i64 e.f0, .slice A2 e.f1.length c2, .slice B2 e.f2.length k2] 27)) (litD2r d e A1 B1 A2 B2 c1 k1 c2 k2 _ _ (Kd.C_below h0 hb) (Kd.C_below h1 hb) (Kd.C_below h2 hb) (Kd.C_below h3 hb) l0 l1 l2 l3 (blk_new W _))
    refine this.mono ?_
    rintro e' w' ⟨b, he, hs, h⟩
    exact ⟨b, he, Lib.hid (fun e => by have := hs e; simp [partsD] at this; omega), h⟩)
  have Q0 := Lib.hid h0
  have Q1 := Lib.hid h1
  have Q2 := Lib.hid h2
  have Q3 := Lib.hid h3
  have HLL := Lib.hid (And.intro l0 (And.intro l1 (And.intro l2 l3)))
  clear h0 h1 h2 h3 l0 l1 l2 l3
  go_enter Try.func4, Try.ntmps4
  go_upto_region 1 with (fail)
  generalize ((w.alloc (.cells #[.int .i64 d.f0, .slice A1 d.f1.length c1, .slice B1 d.f2.length k1] 27)).alloc (.cells #[.int .i64 e.f0, .slice A2 e.f1.length c2, .slice B2 e.f2.length k2] 27)) = wa at *
  obtain ⟨g, hg⟩ : ∃ g, g = w.heap.size := ⟨_, rfl⟩
  rw [← hg] at H0 H1 ⊢
  clear hg
  have a0 : wa.cell? ⟨g, 0, none⟩ = some (.int .i64 d.f0) := blk_at H0.out 0 rfl
  have a1 : wa.cell? ⟨g, 1, none⟩ = some (.slice A1 d.f1.length c1) := blk_at H0.out 1 rfl
  have a2 : wa.cell? ⟨g, 2, none⟩ = some (.slice B1 d.f2.length k1) := blk_at H0.out 2 rfl
  have b0 : wa.cell? ⟨(g + 1), 0, none⟩ = some (.int .i64 e.f0) := blk_at H1.out 0 rfl
  have b1 : wa.cell? ⟨(g + 1), 1, none⟩ = some (.slice A2 e.f1.length c2) := blk_at H1.out 1 rfl
  have b2 : wa.cell? ⟨(g + 1), 2, none⟩ = some (.slice B2 e.f2.length k2) := blk_at H1.out 2 rfl
  have HBL : Hid (Below wa.heap.size wa (wa.alloc (.cells #[.int .i64 d.f0, .slice A1 d.f1.length c1, .slice B1 d.f2.length k1, .int .i64 e.f0, .slice A2 e.f1.length c2, .slice B2 e.f2.length k2] 27))) := Lib.hid ((Below.refl _ wa).alloc (Nat.le_refl _) _)
  have HC := Lib.hid (HF.out wa HB.out)
  go_upto_region 3 with (go_at_call 11; refine HC.out.mono ?_; rintro e' w1 ⟨bl, rfl, hps, hb1⟩
                         have HPS := hps
                         have HW1 : Hid (Below wa.heap.size wa w1) := HBL.out.trans (hb1.out.mono HBL.out.size)
                         clear hb1 a0 a1 a2 b0 b1 b2 hps
                         cases bl)
  · go_ret
    exact ⟨rfl, HB.out.trans (HW1.out.mono HB.out.size)⟩
  obtain ⟨pD, gD, pE, gE⟩ := HPS.out trivial
  have HBw : Hid (Below w.heap.size w w1) := HB.out.trans (HW1.out.mono HB.out.size)
  replace H0 := Lib.hid (blk_below H0.out HW1.out)
  replace H1 := Lib.hid (blk_below H1.out HW1.out)
  clear HPS HC HBL HW1 HB HF
  obtain ⟨wb, hwb⟩ : ∃ W, W = w1 := ⟨_, rfl⟩
  rw [← hwb] at H0 H1 HBw ⊢
  clear hwb
  have HCD : Hid (∀ W, Below w.heap.size w W → Calls Try.prog 13 #[.agg #[.int .i64 d.f0, .slice A1 d.f1.length c1, .slice B1 d.f2.length k1]] W fun e' w' => DlR d W e' w') := Lib.hid (fun W h => copyD13 d A1 B1 c1 k1 W (Kd.C_below Q0.out h) (Kd.C_below Q1.out h) HLL.out.1 HLL.out.2.1 (by omega) (by omega))
  have HCE : Hid (∀ W, Below w.heap.size w W → Calls Try.prog 13 #[.agg #[.int .i64 e.f0, .slice A2 e.f1.length c2, .slice B2 e.f2.length k2]] W fun e' w' => DlR e W e' w') := Lib.hid (fun W h => copyD13 e A2 B2 c2 k2 W (Kd.C_below Q2.out h) (Kd.C_below Q3.out h) HLL.out.2.2.1 HLL.out.2.2.2 (by omega) (by omega))
  have HSt : Hid (∀ w', Below wb.heap.size wb w' → (w'.cell? ⟨g, 0, none⟩ = some (.int .i64 d.f0) ∧ w'.cell? ⟨g, 1, none⟩ = some (.slice A1 d.f1.length c1) ∧ w'.cell? ⟨g, 2, none⟩ = some (.slice B1 d.f2.length k1) ∧ w'.cell? ⟨(g + 1), 0, none⟩ = some (.int .i64 e.f0) ∧ w'.cell? ⟨(g + 1), 1, none⟩ = some (.slice A2 e.f1.length c2) ∧ w'.cell? ⟨(g + 1), 2, none⟩ = some (.slice B2 e.f2.length k2))) := Lib.hid (fun W h => ⟨blk_at (blk_below H0.out h) 0 rfl, blk_at (blk_below H0.out h) 1 rfl, blk_at (blk_below H0.out h) 2 rfl, blk_at (blk_below H1.out h) 0 rfl, blk_at (blk_below H1.out h) 1 rfl, blk_at (blk_below H1.out h) 2 rfl⟩)
  go_cut [5, 6] (fun va vb wx => ∃ b5 b6 A3 c3 B3 k3 A4 c4 B4 k4, va = .pointer (some ⟨b5, 0, none⟩) ∧ vb = .pointer (some ⟨b6, 0, none⟩) ∧ Hid (wx.heap[b5]? = some (.cells #[.int .i64 d.f0, .slice A3 d.f1.length c3, .slice B3 d.f2.length k3] 27 (0, 0))) ∧ Hid (wx.heap[b6]? = some (.cells #[.int .i64 e.f0, .slice A4 e.f1.length c4, .slice B4 e.f2.length k4] 27 (0, 0))) ∧ Hid (Kd.R k63 63 wx wb.heap.size (fun _ => True) (.slice A3 d.f1.length c3) d.f1) ∧ Hid (Kd.R Kd.string 9 wx wb.heap.size (fun _ => True) (.slice B3 d.f2.length k3) d.f2) ∧ Hid (Kd.R k63 63 wx wb.heap.size (fun _ => True) (.slice A4 e.f1.length c4) e.f1) ∧ Hid (Kd.R Kd.string 9 wx wb.heap.size (fun _ => True) (.slice B4 e.f2.length k4) e.f2) ∧ Hid (Below wb.heap.size wb wx))
  case first =>
    refine start_ (n := 8) (S := (fun w' => w'.cell? ⟨g, 0, none⟩ = some (.int .i64 d.f0) ∧ w'.cell? ⟨g, 1, none⟩ = some (.slice A1 d.f1.length c1) ∧ w'.cell? ⟨g, 2, none⟩ = some (.slice B1 d.f2.length k1) ∧ w'.cell? ⟨(g + 1), 0, none⟩ = some (.int .i64 e.f0) ∧ w'.cell? ⟨(g + 1), 1, none⟩ = some (.slice A2 e.f1.length c2) ∧ w'.cell? ⟨(g + 1), 2, none⟩ = some (.slice B2 e.f2.length k2))) (ds := []) #[false, false, false, false, false, false, false, false] (by kernel_rfl) rfl rfl (HSt.out _ ((Below.refl _ _).drew)) (fun hHeld => ?_)
    have HV0 : Hid (Below wb.heap.size wb wb.drew) := (Below.refl _ _).drew
    generalize wb.drew = V0 at hHeld HV0 ⊢
    refine take_ (i := 0) (N := some 16) (v := ?_) (a' := ?_) #[true, false, false, false, false, false, false, false] rfl rfl (by kernel_rfl) (fun _ _ _ h => h) (Or.inl ⟨by rfl, ?_⟩) hHeld ?_ ?_
    rotate_left
    · rintro w' ⟨s0, s1, s2, s3, s4, s5⟩
      go_simp
      with_reducible rfl
    rotate_left
    · go_simp
      rfl
    refine take_ (i := 2) (N := some 18) (v := ?_) (a' := ?_) #[true, false, true, false, false, false, false, false] rfl rfl (by kernel_rfl) (fun _ _ _ h => h) (Or.inl ⟨by rfl, ?_⟩) hHeld ?_ ?_
    rotate_left
    · rintro w' ⟨s0, s1, s2, s3, s4, s5⟩
      go_simp
      with_reducible rfl
    rotate_left
    · go_simp
      rfl
    refine three_ (i := 1) (j := 4) (k := 5) (Ni := some 17) (Nj := some 5) (Nk := some 6) #[true, true, true, false, false, false, false, false] #[true, false, true, false, true, false, false, false] #[true, false, true, false, false, true, false, false] rfl rfl rfl rfl rfl rfl (by kernel_rfl) (by decide) (by decide) (by decide) (fun K hK => ?_) (fun K hK => ?_) (fun K hK => ?_)
    · refine goes_ Try.func13 (by kernel_rfl) rfl #[.agg #[.int .i64 d.f0, .slice A1 d.f1.length c1, .slice B1 d.f2.length k1]] (by rfl) rfl rfl (by simp only [List.map_toArray, List.map_cons, List.map_nil]; rfl) ?_
      refine ((HCD.out V0 (HBw.out.trans (HV0.out.mono HBw.out.size)))).mono ?_
      rintro e' V1 ⟨A3, c3, B3, k3, rfl, R3, G3, hb⟩
      refine ⟨_, rfl, ?_⟩
      have HV1 : Hid (Below wb.heap.size wb V1) := HV0.out.trans (hb.out.mono HV0.out.size)
      replace R3 := Lib.hid (Kd.R_lower R3.out HV0.out.size)
      replace G3 := Lib.hid (Kd.R_lower G3.out HV0.out.size)
      refine hK.out _ _ (HSt.out _ HV1.out) (fun hHeld => ?_)
      clear hK K hb HV0
      refine norm_ (a' := ?_) ?_ ?_
      rotate_left
      · show Act.put _ (some 17) _ = _
        go_simp
        rfl
      refine three_ (i := 3) (j := 4) (k := 5) (Ni := some 19) (Nj := some 5) (Nk := some 6) #[true, true, true, true, false, false, false, false] #[true, true, true, false, true, false, false, false] #[true, true, true, false, false, true, false, false] rfl rfl rfl rfl rfl rfl (by kernel_rfl) (by decide) (by decide) (by decide) (fun K hK => ?_) (fun K hK => ?_) (fun K hK => ?_)
      · refine goes_ Try.func13 (by kernel_rfl) rfl #[.agg #[.int .i64 e.f0, .slice A2 e.f1.length c2, .slice B2 e.f2.length k2]] (by rfl) rfl rfl (by simp only [List.map_toArray, List.map_cons, List.map_nil]; rfl) ?_
        refine ((HCE.out V1 (HBw.out.trans (HV1.out.mono HBw.out.size)))).mono ?_
        rintro e' V2 ⟨A4, c4, B4, k4, rfl, R4, G4, hb⟩
        refine ⟨_, rfl, ?_⟩
        replace R3 := Lib.hid (Kd.R_below R3.out hb.out)
        replace G3 := Lib.hid (Kd.R_below G3.out hb.out)
        have HV2 : Hid (Below wb.heap.size wb V2) := HV1.out.trans (hb.out.mono HV1.out.size)
        replace R4 := Lib.hid (Kd.R_lower R4.out HV1.out.size)
        replace G4 := Lib.hid (Kd.R_lower G4.out HV1.out.size)
        refine hK.out _ _ (HSt.out _ HV2.out) (fun hHeld => ?_)
        clear hK K hb HV1
        refine norm_ (a' := ?_) ?_ ?_
        rotate_left
        · show Act.put _ (some 19) _ = _
          go_simp
          rfl
        refine two_ (i := 4) (j := 5) (Ni := some 5) (Nj := some 6) #[true, true, true, true, true, false, false, false] #[true, true, true, true, false, true, false, false] rfl rfl rfl rfl (by kernel_rfl) (by decide) (by decide) (fun K hK => ?_) (fun K hK => ?_)
        · obtain ⟨b5, hnb⟩ : ∃ nb, nb = V2.heap.size := ⟨_, rfl⟩
          refine value_ (w1 := (V2.alloc (.cells #[.int .i64 0, .slice none 0 0, .slice none 0 0] 27))) (v := .pointer (some ⟨b5, 0, none⟩)) (by rfl) rfl (by rw [hnb]; go_simp) ?_
          have hal : Hid (Below V2.heap.size V2 (V2.alloc (.cells #[.int .i64 0, .slice none 0 0, .slice none 0 0] 27))) := Lib.hid ((Below.refl _ _).alloc (Nat.le_refl _) _)
          have H5 : Hid ((V2.alloc (.cells #[.int .i64 0, .slice none 0 0, .slice none 0 0] 27)).heap[b5]? = some (.cells #[.int .i64 0, .slice none 0 0, .slice none 0 0] 27 (0, 0))) := by rw [hnb]; exact Lib.hid (blk_new _ _)
          have gb5 : Hid (wb.heap.size ≤ b5) := by rw [hnb]; exact Lib.hid HV2.out.size
          clear hnb
          generalize (V2.alloc (.cells #[.int .i64 0, .slice none 0 0, .slice none 0 0] 27)) = V3 at hal H5 ⊢
          replace R3 := Lib.hid (Kd.R_below R3.out hal.out)
          replace G3 := Lib.hid (Kd.R_below G3.out hal.out)
          replace R4 := Lib.hid (Kd.R_below R4.out hal.out)
          replace G4 := Lib.hid (Kd.R_below G4.out hal.out)
          have HV3 : Hid (Below wb.heap.size wb V3) := HV2.out.trans (hal.out.mono HV2.out.size)
          refine hK.out _ _ (HSt.out _ HV3.out) (fun hHeld => ?_)
          clear hK K hal HV2
          refine norm_ (a' := ?_) ?_ ?_
          rotate_left
          · show Act.put _ (some 5) _ = _
            go_simp
            rfl
          refine one_ (i := 5) (N := some 6) #[true, true, true, true, true, true, false, false] rfl rfl (by kernel_rfl) (by decide) (fun K hK => ?_)
          obtain ⟨b6, hnb⟩ : ∃ nb, nb = V3.heap.size := ⟨_, rfl⟩
          refine value_ (w1 := (V3.alloc (.cells #[.int .i64 0, .slice none 0 0, .slice none 0 0] 27))) (v := .pointer (some ⟨b6, 0, none⟩)) (by rfl) rfl (by rw [hnb]; go_simp) ?_
          have hal : Hid (Below V3.heap.size V3 (V3.alloc (.cells #[.int .i64 0, .slice none 0 0, .slice none 0 0] 27))) := Lib.hid ((Below.refl _ _).alloc (Nat.le_refl _) _)
          have H6 : Hid ((V3.alloc (.cells #[.int .i64 0, .slice none 0 0, .slice none 0 0] 27)).heap[b6]? = some (.cells #[.int .i64 0, .slice none 0 0, .slice none 0 0] 27 (0, 0))) := by rw [hnb]; exact Lib.hid (blk_new _ _)
          have gb6 : Hid (wb.heap.size ≤ b6) := by rw [hnb]; exact Lib.hid HV3.out.size
          have HNE : Hid (b5 ≠ b6) := Lib.hid (by have := blk_lt H5.out; omega)
          clear hnb
          generalize (V3.alloc (.cells #[.int .i64 0, .slice none 0 0, .slice none 0 0] 27)) = V4 at hal H6 ⊢
          replace R3 := Lib.hid (Kd.R_below R3.out hal.out)
          replace G3 := Lib.hid (Kd.R_below G3.out hal.out)
          replace R4 := Lib.hid (Kd.R_below R4.out hal.out)
          replace G4 := Lib.hid (Kd.R_below G4.out hal.out)
          replace H5 := Lib.hid (blk_below H5.out hal.out)
          have HV4 : Hid (Below wb.heap.size wb V4) := HV3.out.trans (hal.out.mono HV3.out.size)
          refine hK.out _ _ (HSt.out _ HV4.out) (fun hHeld => ?_)
          clear hK K hal HV3
          refine norm_ (a' := ?_) ?_ ?_
          rotate_left
          · show Act.put _ (some 6) _ = _
            go_simp
            rfl
          refine one_ (i := 6) (N := none) #[true, true, true, true, true, true, true, false] rfl rfl (by kernel_rfl) (by decide) (fun K hK => ?_)
          have x0 : V4.cell? ⟨b5, 0, none⟩ = some (.int .i64 0) := blk_at H5.out 0 rfl
          have z0 : V4.frozen? ⟨b5, 0, none⟩ = false := blk_frozen H5.out 0
          have x1 : V4.cell? ⟨b5, 1, none⟩ = some (.slice none 0 0) := blk_at H5.out 1 rfl
          have z1 : V4.frozen? ⟨b5, 1, none⟩ = false := blk_frozen H5.out 1
          have x2 : V4.cell? ⟨b5, 2, none⟩ = some (.slice none 0 0) := blk_at H5.out 2 rfl
          have z2 : V4.frozen? ⟨b5, 2, none⟩ = false := blk_frozen H5.out 2
          refine skip_ (w1 := (((V4.setCell ⟨b5, 0, none⟩ (.int .i64 d.f0)).setCell ⟨b5, 1, none⟩ (.slice A3 d.f1.length c3)).setCell ⟨b5, 2, none⟩ (.slice B3 d.f2.length k3))) (by rfl) rfl (by go_simp) ?_
          replace R3 := Lib.hid (Kd.R_set (Kd.R_set (Kd.R_set R3.out H5.out (by decide) 0 (.int .i64 d.f0)) (blk_put H5.out 0 (.int .i64 d.f0) rfl) (by decide) 1 (.slice A3 d.f1.length c3)) (blk_put (blk_put H5.out 0 (.int .i64 d.f0) rfl) 1 (.slice A3 d.f1.length c3) rfl) (by decide) 2 (.slice B3 d.f2.length k3))
          replace G3 := Lib.hid (Kd.R_set (Kd.R_set (Kd.R_set G3.out H5.out (by decide) 0 (.int .i64 d.f0)) (blk_put H5.out 0 (.int .i64 d.f0) rfl) (by decide) 1 (.slice A3 d.f1.length c3)) (blk_put (blk_put H5.out 0 (.int .i64 d.f0) rfl) 1 (.slice A3 d.f1.length c3) rfl) (by decide) 2 (.slice B3 d.f2.length k3))
          replace R4 := Lib.hid (Kd.R_set (Kd.R_set (Kd.R_set R4.out H5.out (by decide) 0 (.int .i64 d.f0)) (blk_put H5.out 0 (.int .i64 d.f0) rfl) (by decide) 1 (.slice A3 d.f1.length c3)) (blk_put (blk_put H5.out 0 (.int .i64 d.f0) rfl) 1 (.slice A3 d.f1.length c3) rfl) (by decide) 2 (.slice B3 d.f2.length k3))
          replace G4 := Lib.hid (Kd.R_set (Kd.R_set (Kd.R_set G4.out H5.out (by decide) 0 (.int .i64 d.f0)) (blk_put H5.out 0 (.int .i64 d.f0) rfl) (by decide) 1 (.slice A3 d.f1.length c3)) (blk_put (blk_put H5.out 0 (.int .i64 d.f0) rfl) 1 (.slice A3 d.f1.length c3) rfl) (by decide) 2 (.slice B3 d.f2.length k3))
          replace H6 := Lib.hid (blk_far (blk_far (blk_far H6.out (p := ⟨b5, 0, none⟩) HNE.out.symm (.int .i64 d.f0)) (p := ⟨b5, 1, none⟩) HNE.out.symm (.slice A3 d.f1.length c3)) (p := ⟨b5, 2, none⟩) HNE.out.symm (.slice B3 d.f2.length k3))
          replace H5 := Lib.hid (blk_put (blk_put (blk_put H5.out 0 (.int .i64 d.f0) rfl) 1 (.slice A3 d.f1.length c3) rfl) 2 (.slice B3 d.f2.length k3) rfl)
          have HV5 : Hid (Below wb.heap.size wb (((V4.setCell ⟨b5, 0, none⟩ (.int .i64 d.f0)).setCell ⟨b5, 1, none⟩ (.slice A3 d.f1.length c3)).setCell ⟨b5, 2, none⟩ (.slice B3 d.f2.length k3))) := Lib.hid (((HV4.out.setCell (p := ⟨b5, 0, none⟩) gb5.out _).setCell (p := ⟨b5, 1, none⟩) gb5.out _).setCell (p := ⟨b5, 2, none⟩) gb5.out _)
          refine hK.out _ _ (HSt.out _ HV5.out) (fun hHeld => ?_)
          clear hK K hHeld HV4 x0 z0 x1 z1 x2 z2
          generalize (((V4.setCell ⟨b5, 0, none⟩ (.int .i64 d.f0)).setCell ⟨b5, 1, none⟩ (.slice A3 d.f1.length c3)).setCell ⟨b5, 2, none⟩ (.slice B3 d.f2.length k3)) = V5 at *
          refine one_ (i := 7) (N := none) #[true, true, true, true, true, true, true, true] rfl rfl (by kernel_rfl) (by decide) (fun K hK => ?_)
          have x0 : V5.cell? ⟨b6, 0, none⟩ = some (.int .i64 0) := blk_at H6.out 0 rfl
          have z0 : V5.frozen? ⟨b6, 0, none⟩ = false := blk_frozen H6.out 0
          have x1 : V5.cell? ⟨b6, 1, none⟩ = some (.slice none 0 0) := blk_at H6.out 1 rfl
          have z1 : V5.frozen? ⟨b6, 1, none⟩ = false := blk_frozen H6.out 1
          have x2 : V5.cell? ⟨b6, 2, none⟩ = some (.slice none 0 0) := blk_at H6.out 2 rfl
          have z2 : V5.frozen? ⟨b6, 2, none⟩ = false := blk_frozen H6.out 2
          refine skip_ (w1 := (((V5.setCell ⟨b6, 0, none⟩ (.int .i64 e.f0)).setCell ⟨b6, 1, none⟩ (.slice A4 e.f1.length c4)).setCell ⟨b6, 2, none⟩ (.slice B4 e.f2.length k4))) (by rfl) rfl (by go_simp) ?_
          replace R3 := Lib.hid (Kd.R_set (Kd.R_set (Kd.R_set R3.out H6.out (by decide) 0 (.int .i64 e.f0)) (blk_put H6.out 0 (.int .i64 e.f0) rfl) (by decide) 1 (.slice A4 e.f1.length c4)) (blk_put (blk_put H6.out 0 (.int .i64 e.f0) rfl) 1 (.slice A4 e.f1.length c4) rfl) (by decide) 2 (.slice B4 e.f2.length k4))
          replace G3 := Lib.hid (Kd.R_set (Kd.R_set (Kd.R_set G3.out H6.out (by decide) 0 (.int .i64 e.f0)) (blk_put H6.out 0 (.int .i64 e.f0) rfl) (by decide) 1 (.slice A4 e.f1.length c4)) (blk_put (blk_put H6.out 0 (.int .i64 e.f0) rfl) 1 (.slice A4 e.f1.length c4) rfl) (by decide) 2 (.slice B4 e.f2.length k4))
          replace R4 := Lib.hid (Kd.R_set (Kd.R_set (Kd.R_set R4.out H6.out (by decide) 0 (.int .i64 e.f0)) (blk_put H6.out 0 (.int .i64 e.f0) rfl) (by decide) 1 (.slice A4 e.f1.length c4)) (blk_put (blk_put H6.out 0 (.int .i64 e.f0) rfl) 1 (.slice A4 e.f1.length c4) rfl) (by decide) 2 (.slice B4 e.f2.length k4))
          replace G4 := Lib.hid (Kd.R_set (Kd.R_set (Kd.R_set G4.out H6.out (by decide) 0 (.int .i64 e.f0)) (blk_put H6.out 0 (.int .i64 e.f0) rfl) (by decide) 1 (.slice A4 e.f1.length c4)) (blk_put (blk_put H6.out 0 (.int .i64 e.f0) rfl) 1 (.slice A4 e.f1.length c4) rfl) (by decide) 2 (.slice B4 e.f2.length k4))
          replace H5 := Lib.hid (blk_far (blk_far (blk_far H5.out (p := ⟨b6, 0, none⟩) HNE.out (.int .i64 e.f0)) (p := ⟨b6, 1, none⟩) HNE.out (.slice A4 e.f1.length c4)) (p := ⟨b6, 2, none⟩) HNE.out (.slice B4 e.f2.length k4))
          replace H6 := Lib.hid (blk_put (blk_put (blk_put H6.out 0 (.int .i64 e.f0) rfl) 1 (.slice A4 e.f1.length c4) rfl) 2 (.slice B4 e.f2.length k4) rfl)
          have HV6 : Hid (Below wb.heap.size wb (((V5.setCell ⟨b6, 0, none⟩ (.int .i64 e.f0)).setCell ⟨b6, 1, none⟩ (.slice A4 e.f1.length c4)).setCell ⟨b6, 2, none⟩ (.slice B4 e.f2.length k4))) := Lib.hid (((HV5.out.setCell (p := ⟨b6, 0, none⟩) gb6.out _).setCell (p := ⟨b6, 1, none⟩) gb6.out _).setCell (p := ⟨b6, 2, none⟩) gb6.out _)
          refine hK.out _ _ (HSt.out _ HV6.out) (fun hHeld => ?_)
          clear hK K hHeld HV5 x0 z0 x1 z1 x2 z2
          generalize (((V5.setCell ⟨b6, 0, none⟩ (.int .i64 e.f0)).setCell ⟨b6, 1, none⟩ (.slice A4 e.f1.length c4)).setCell ⟨b6, 2, none⟩ (.slice B4 e.f2.length k4)) = V6 at *
          refine done_ (by kernel_rfl) ?_
          go_wp2_with (fail)
          go_meet
          exact ⟨b5, b6, A3, c3, B3, k3, A4, c4, B4, k4, rfl, rfl, H5, H6, R3, G3, R4, G4, HV6⟩
        · obtain ⟨b6, hnb⟩ : ∃ nb, nb = V2.heap.size := ⟨_, rfl⟩
          refine value_ (w1 := (V2.alloc (.cells #[.int .i64 0, .slice none 0 0, .slice none 0 0] 27))) (v := .pointer (some ⟨b6, 0, none⟩)) (by rfl) rfl (by rw [hnb]; go_simp) ?_
          have hal : Hid (Below V2.heap.size V2 (V2.alloc (.cells #[.int .i64 0, .slice none 0 0, .slice none 0 0] 27))) := Lib.hid ((Below.refl _ _).alloc (Nat.le_refl _) _)
          have H6 : Hid ((V2.alloc (.cells #[.int .i64 0, .slice none 0 0, .slice none 0 0] 27)).heap[b6]? = some (.cells #[.int .i64 0, .slice none 0 0, .slice none 0 0] 27 (0, 0))) := by rw [hnb]; exact Lib.hid (blk_new _ _)
          have gb6 : Hid (wb.heap.size ≤ b6) := by rw [hnb]; exact Lib.hid HV2.out.size
          clear hnb
          generalize (V2.alloc (.cells #[.int .i64 0, .slice none 0 0, .slice none 0 0] 27)) = V3 at hal H6 ⊢
          replace R3 := Lib.hid (Kd.R_below R3.out hal.out)
          replace G3 := Lib.hid (Kd.R_below G3.out hal.out)
          replace R4 := Lib.hid (Kd.R_below R4.out hal.out)
          replace G4 := Lib.hid (Kd.R_below G4.out hal.out)
          have HV3 : Hid (Below wb.heap.size wb V3) := HV2.out.trans (hal.out.mono HV2.out.size)
          refine hK.out _ _ (HSt.out _ HV3.out) (fun hHeld => ?_)
          clear hK K hal HV2
          refine norm_ (a' := ?_) ?_ ?_
          rotate_left
          · show Act.put _ (some 6) _ = _
            go_simp
            rfl
          refine one_ (i := 4) (N := some 5) #[true, true, true, true, true, true, false, false] rfl rfl (by kernel_rfl) (by decide) (fun K hK => ?_)
          obtain ⟨b5, hnb⟩ : ∃ nb, nb = V3.heap.size := ⟨_, rfl⟩
          refine value_ (w1 := (V3.alloc (.cells #[.int .i64 0, .slice none 0 0, .slice none 0 0] 27))) (v := .pointer (some ⟨b5, 0, none⟩)) (by rfl) rfl (by rw [hnb]; go_simp) ?_
          have hal : Hid (Below V3.heap.size V3 (V3.alloc (.cells #[.int .i64 0, .slice none 0 0, .slice none 0 0] 27))) := Lib.hid ((Below.refl _ _).alloc (Nat.le_refl _) _)
          have H5 : Hid ((V3.alloc (.cells #[.int .i64 0, .slice none 0 0, .slice none 0 0] 27)).heap[b5]? = some (.cells #[.int .i64 0, .slice none 0 0, .slice none 0 0] 27 (0, 0))) := by rw [hnb]; exact Lib.hid (blk_new _ _)
          have gb5 : Hid (wb.heap.size ≤ b5) := by rw [hnb]; exact Lib.hid HV3.out.size
          have HNE : Hid (b5 ≠ b6) := Lib.hid (by have := blk_lt H6.out; omega)
          clear hnb
          generalize (V3.alloc (.cells #[.int .i64 0, .slice none 0 0, .slice none 0 0] 27)) = V4 at hal H5 ⊢
          replace R3 := Lib.hid (Kd.R_below R3.out hal.out)
          replace G3 := Lib.hid (Kd.R_below G3.out hal.out)
          replace R4 := Lib.hid (Kd.R_below R4.out hal.out)
          replace G4 := Lib.hid (Kd.R_below G4.out hal.out)
          replace H6 := Lib.hid (blk_below H6.out hal.out)
          have HV4 : Hid (Below wb.heap.size wb V4) := HV3.out.trans (hal.out.mono HV3.out.size)
          refine hK.out _ _ (HSt.out _ HV4.out) (fun hHeld => ?_)
          clear hK K hal HV3
          refine norm_ (a' := ?_) ?_ ?_
          rotate_left
          · show Act.put _ (some 5) _ = _
            go_simp
            rfl
          refine one_ (i := 6) (N := none) #[true, true, true, true, true, true, true, false] rfl rfl (by kernel_rfl) (by decide) (fun K hK => ?_)
          have x0 : V4.cell? ⟨b5, 0, none⟩ = some (.int .i64 0) := blk_at H5.out 0 rfl
          have z0 : V4.frozen? ⟨b5, 0, none⟩ = false := blk_frozen H5.out 0
          have x1 : V4.cell? ⟨b5, 1, none⟩ = some (.slice none 0 0) := blk_at H5.out 1 rfl
          have z1 : V4.frozen? ⟨b5, 1, none⟩ = false := blk_frozen H5.out 1
          have x2 : V4.cell? ⟨b5, 2, none⟩ = some (.slice none 0 0) := blk_at H5.out 2 rfl
          have z2 : V4.frozen? ⟨b5, 2, none⟩ = false := blk_frozen H5.out 2
          refine skip_ (w1 := (((V4.setCell ⟨b5, 0, none⟩ (.int .i64 d.f0)).setCell ⟨b5, 1, none⟩ (.slice A3 d.f1.length c3)).setCell ⟨b5, 2, none⟩ (.slice B3 d.f2.length k3))) (by rfl) rfl (by go_simp) ?_
          replace R3 := Lib.hid (Kd.R_set (Kd.R_set (Kd.R_set R3.out H5.out (by decide) 0 (.int .i64 d.f0)) (blk_put H5.out 0 (.int .i64 d.f0) rfl) (by decide) 1 (.slice A3 d.f1.length c3)) (blk_put (blk_put H5.out 0 (.int .i64 d.f0) rfl) 1 (.slice A3 d.f1.length c3) rfl) (by decide) 2 (.slice B3 d.f2.length k3))
          replace G3 := Lib.hid (Kd.R_set (Kd.R_set (Kd.R_set G3.out H5.out (by decide) 0 (.int .i64 d.f0)) (blk_put H5.out 0 (.int .i64 d.f0) rfl) (by decide) 1 (.slice A3 d.f1.length c3)) (blk_put (blk_put H5.out 0 (.int .i64 d.f0) rfl) 1 (.slice A3 d.f1.length c3) rfl) (by decide) 2 (.slice B3 d.f2.length k3))
          replace R4 := Lib.hid (Kd.R_set (Kd.R_set (Kd.R_set R4.out H5.out (by decide) 0 (.int .i64 d.f0)) (blk_put H5.out 0 (.int .i64 d.f0) rfl) (by decide) 1 (.slice A3 d.f1.length c3)) (blk_put (blk_put H5.out 0 (.int .i64 d.f0) rfl) 1 (.slice A3 d.f1.length c3) rfl) (by decide) 2 (.slice B3 d.f2.length k3))
          replace G4 := Lib.hid (Kd.R_set (Kd.R_set (Kd.R_set G4.out H5.out (by decide) 0 (.int .i64 d.f0)) (blk_put H5.out 0 (.int .i64 d.f0) rfl) (by decide) 1 (.slice A3 d.f1.length c3)) (blk_put (blk_put H5.out 0 (.int .i64 d.f0) rfl) 1 (.slice A3 d.f1.length c3) rfl) (by decide) 2 (.slice B3 d.f2.length k3))
          replace H6 := Lib.hid (blk_far (blk_far (blk_far H6.out (p := ⟨b5, 0, none⟩) HNE.out.symm (.int .i64 d.f0)) (p := ⟨b5, 1, none⟩) HNE.out.symm (.slice A3 d.f1.length c3)) (p := ⟨b5, 2, none⟩) HNE.out.symm (.slice B3 d.f2.length k3))
          replace H5 := Lib.hid (blk_put (blk_put (blk_put H5.out 0 (.int .i64 d.f0) rfl) 1 (.slice A3 d.f1.length c3) rfl) 2 (.slice B3 d.f2.length k3) rfl)
          have HV5 : Hid (Below wb.heap.size wb (((V4.setCell ⟨b5, 0, none⟩ (.int .i64 d.f0)).setCell ⟨b5, 1, none⟩ (.slice A3 d.f1.length c3)).setCell ⟨b5, 2, none⟩ (.slice B3 d.f2.length k3))) := Lib.hid (((HV4.out.setCell (p := ⟨b5, 0, none⟩) gb5.out _).setCell (p := ⟨b5, 1, none⟩) gb5.out _).setCell (p := ⟨b5, 2, none⟩) gb5.out _)
          refine hK.out _ _ (HSt.out _ HV5.out) (fun hHeld => ?_)
          clear hK K hHeld HV4 x0 z0 x1 z1 x2 z2
          generalize (((V4.setCell ⟨b5, 0, none⟩ (.int .i64 d.f0)).setCell ⟨b5, 1, none⟩ (.slice A3 d.f1.length c3)).setCell ⟨b5, 2, none⟩ (.slice B3 d.f2.length k3)) = V5 at *
          refine one_ (i := 7) (N := none) #[true, true, true, true, true, true, true, true] rfl rfl (by kernel_rfl) (by decide) (fun K hK => ?_)
          have x0 : V5.cell? ⟨b6, 0, none⟩ = some (.int .i64 0) := blk_at H6.out 0 rfl
          have z0 : V5.frozen? ⟨b6, 0, none⟩ = false := blk_frozen H6.out 0
          have x1 : V5.cell? ⟨b6, 1, none⟩ = some (.slice none 0 0) := blk_at H6.out 1 rfl
          have z1 : V5.frozen? ⟨b6, 1, none⟩ = false := blk_frozen H6.out 1
          have x2 : V5.cell? ⟨b6, 2, none⟩ = some (.slice none 0 0) := blk_at H6.out 2 rfl
          have z2 : V5.frozen? ⟨b6, 2, none⟩ = false := blk_frozen H6.out 2
          refine skip_ (w1 := (((V5.setCell ⟨b6, 0, none⟩ (.int .i64 e.f0)).setCell ⟨b6, 1, none⟩ (.slice A4 e.f1.length c4)).setCell ⟨b6, 2, none⟩ (.slice B4 e.f2.length k4))) (by rfl) rfl (by go_simp) ?_
          replace R3 := Lib.hid (Kd.R_set (Kd.R_set (Kd.R_set R3.out H6.out (by decide) 0 (.int .i64 e.f0)) (blk_put H6.out 0 (.int .i64 e.f0) rfl) (by decide) 1 (.slice A4 e.f1.length c4)) (blk_put (blk_put H6.out 0 (.int .i64 e.f0) rfl) 1 (.slice A4 e.f1.length c4) rfl) (by decide) 2 (.slice B4 e.f2.length k4))
          replace G3 := Lib.hid (Kd.R_set (Kd.R_set (Kd.R_set G3.out H6.out (by decide) 0 (.int .i64 e.f0)) (blk_put H6.out 0 (.int .i64 e.f0) rfl) (by decide) 1 (.slice A4 e.f1.length c4)) (blk_put (blk_put H6.out 0 (.int .i64 e.f0) rfl) 1 (.slice A4 e.f1.length c4) rfl) (by decide) 2 (.slice B4 e.f2.length k4))
          replace R4 := Lib.hid (Kd.R_set (Kd.R_set (Kd.R_set R4.out H6.out (by decide) 0 (.int .i64 e.f0)) (blk_put H6.out 0 (.int .i64 e.f0) rfl) (by decide) 1 (.slice A4 e.f1.length c4)) (blk_put (blk_put H6.out 0 (.int .i64 e.f0) rfl) 1 (.slice A4 e.f1.length c4) rfl) (by decide) 2 (.slice B4 e.f2.length k4))
          replace G4 := Lib.hid (Kd.R_set (Kd.R_set (Kd.R_set G4.out H6.out (by decide) 0 (.int .i64 e.f0)) (blk_put H6.out 0 (.int .i64 e.f0) rfl) (by decide) 1 (.slice A4 e.f1.length c4)) (blk_put (blk_put H6.out 0 (.int .i64 e.f0) rfl) 1 (.slice A4 e.f1.length c4) rfl) (by decide) 2 (.slice B4 e.f2.length k4))
          replace H5 := Lib.hid (blk_far (blk_far (blk_far H5.out (p := ⟨b6, 0, none⟩) HNE.out (.int .i64 e.f0)) (p := ⟨b6, 1, none⟩) HNE.out (.slice A4 e.f1.length c4)) (p := ⟨b6, 2, none⟩) HNE.out (.slice B4 e.f2.length k4))
          replace H6 := Lib.hid (blk_put (blk_put (blk_put H6.out 0 (.int .i64 e.f0) rfl) 1 (.slice A4 e.f1.length c4) rfl) 2 (.slice B4 e.f2.length k4) rfl)
          have HV6 : Hid (Below wb.heap.size wb (((V5.setCell ⟨b6, 0, none⟩ (.int .i64 e.f0)).setCell ⟨b6, 1, none⟩ (.slice A4 e.f1.length c4)).setCell ⟨b6, 2, none⟩ (.slice B4 e.f2.length k4))) := Lib.hid (((HV5.out.setCell (p := ⟨b6, 0, none⟩) gb6.out _).setCell (p := ⟨b6, 1, none⟩) gb6.out _).setCell (p := ⟨b6, 2, none⟩) gb6.out _)
          refine hK.out _ _ (HSt.out _ HV6.out) (fun hHeld => ?_)
          clear hK K hHeld HV5 x0 z0 x1 z1 x2 z2
          generalize (((V5.setCell ⟨b6, 0, none⟩ (.int .i64 e.f0)).setCell ⟨b6, 1, none⟩ (.slice A4 e.f1.length c4)).setCell ⟨b6, 2, none⟩ (.slice B4 e.f2.length k4)) = V6 at *
          refine done_ (by kernel_rfl) ?_
          go_wp2_with (fail)
          go_meet
          exact ⟨b5, b6, A3, c3, B3, k3, A4, c4, B4, k4, rfl, rfl, H5, H6, R3, G3, R4, G4, HV6⟩
      · obtain ⟨b5, hnb⟩ : ∃ nb, nb = V1.heap.size := ⟨_, rfl⟩
        refine value_ (w1 := (V1.alloc (.cells #[.int .i64 0, .slice none 0 0, .slice none 0 0] 27))) (v := .pointer (some ⟨b5, 0, none⟩)) (by rfl) rfl (by rw [hnb]; go_simp) ?_
        have hal : Hid (Below V1.heap.size V1 (V1.alloc (.cells #[.int .i64 0, .slice none 0 0, .slice none 0 0] 27))) := Lib.hid ((Below.refl _ _).alloc (Nat.le_refl _) _)
        have H5 : Hid ((V1.alloc (.cells #[.int .i64 0, .slice none 0 0, .slice none 0 0] 27)).heap[b5]? = some (.cells #[.int .i64 0, .slice none 0 0, .slice none 0 0] 27 (0, 0))) := by rw [hnb]; exact Lib.hid (blk_new _ _)
        have gb5 : Hid (wb.heap.size ≤ b5) := by rw [hnb]; exact Lib.hid HV1.out.size
        clear hnb
        generalize (V1.alloc (.cells #[.int .i64 0, .slice none 0 0, .slice none 0 0] 27)) = V2 at hal H5 ⊢
        replace R3 := Lib.hid (Kd.R_below R3.out hal.out)
        replace G3 := Lib.hid (Kd.R_below G3.out hal.out)
        have HV2 : Hid (Below wb.heap.size wb V2) := HV1.out.trans (hal.out.mono HV1.out.size)
        refine hK.out _ _ (HSt.out _ HV2.out) (fun hHeld => ?_)
        clear hK K hal HV1
        refine norm_ (a' := ?_) ?_ ?_
        rotate_left
        · show Act.put _ (some 5) _ = _
          go_simp
          rfl
        refine two_ (i := 3) (j := 5) (Ni := some 19) (Nj := some 6) #[true, true, true, true, true, false, false, false] #[true, true, true, false, true, true, false, false] rfl rfl rfl rfl (by kernel_rfl) (by decide) (by decide) (fun K hK => ?_) (fun K hK => ?_)
        · refine goes_ Try.func13 (by kernel_rfl) rfl #[.agg #[.int .i64 e.f0, .slice A2 e.f1.length c2, .slice B2 e.f2.length k2]] (by rfl) rfl rfl (by simp only [List.map_toArray, List.map_cons, List.map_nil]; rfl) ?_
          refine ((HCE.out V2 (HBw.out.trans (HV2.out.mono HBw.out.size)))).mono ?_
          rintro e' V3 ⟨A4, c4, B4, k4, rfl, R4, G4, hb⟩
          refine ⟨_, rfl, ?_⟩
          replace R3 := Lib.hid (Kd.R_below R3.out hb.out)
          replace G3 := Lib.hid (Kd.R_below G3.out hb.out)
          replace H5 := Lib.hid (blk_below H5.out hb.out)
          have HV3 : Hid (Below wb.heap.size wb V3) := HV2.out.trans (hb.out.mono HV2.out.size)
          replace R4 := Lib.hid (Kd.R_lower R4.out HV2.out.size)
          replace G4 := Lib.hid (Kd.R_lower G4.out HV2.out.size)
          refine hK.out _ _ (HSt.out _ HV3.out) (fun hHeld => ?_)
          clear hK K hb HV2
          refine norm_ (a' := ?_) ?_ ?_
          rotate_left
          · show Act.put _ (some 19) _ = _
            go_simp
            rfl
          refine one_ (i := 5) (N := some 6) #[true, true, true, true, true, true, false, false] rfl rfl (by kernel_rfl) (by decide) (fun K hK => ?_)
          obtain ⟨b6, hnb⟩ : ∃ nb, nb = V3.heap.size := ⟨_, rfl⟩
          refine value_ (w1 := (V3.alloc (.cells #[.int .i64 0, .slice none 0 0, .slice none 0 0] 27))) (v := .pointer (some ⟨b6, 0, none⟩)) (by rfl) rfl (by rw [hnb]; go_simp) ?_
          have hal : Hid (Below V3.heap.size V3 (V3.alloc (.cells #[.int .i64 0, .slice none 0 0, .slice none 0 0] 27))) := Lib.hid ((Below.refl _ _).alloc (Nat.le_refl _) _)
          have H6 : Hid ((V3.alloc (.cells #[.int .i64 0, .slice none 0 0, .slice none 0 0] 27)).heap[b6]? = some (.cells #[.int .i64 0, .slice none 0 0, .slice none 0 0] 27 (0, 0))) := by rw [hnb]; exact Lib.hid (blk_new _ _)
          have gb6 : Hid (wb.heap.size ≤ b6) := by rw [hnb]; exact Lib.hid HV3.out.size
          have HNE : Hid (b5 ≠ b6) := Lib.hid (by have := blk_lt H5.out; omega)
          clear hnb
          generalize (V3.alloc (.cells #[.int .i64 0, .slice none 0 0, .slice none 0 0] 27)) = V4 at hal H6 ⊢
          replace R3 := Lib.hid (Kd.R_below R3.out hal.out)
          replace G3 := Lib.hid (Kd.R_below G3.out hal.out)
          replace R4 := Lib.hid (Kd.R_below R4.out hal.out)
          replace G4 := Lib.hid (Kd.R_below G4.out hal.out)
          replace H5 := Lib.hid (blk_below H5.out hal.out)
          have HV4 : Hid (Below wb.heap.size wb V4) := HV3.out.trans (hal.out.mono HV3.out.size)
          refine hK.out _ _ (HSt.out _ HV4.out) (fun hHeld => ?_)
          clear hK K hal HV3
          refine norm_ (a' := ?_) ?_ ?_
          rotate_left
          · show Act.put _ (some 6) _ = _
            go_simp
            rfl
          refine one_ (i := 6) (N := none) #[true, true, true, true, true, true, true, false] rfl rfl (by kernel_rfl) (by decide) (fun K hK => ?_)
          have x0 : V4.cell? ⟨b5, 0, none⟩ = some (.int .i64 0) := blk_at H5.out 0 rfl
          have z0 : V4.frozen? ⟨b5, 0, none⟩ = false := blk_frozen H5.out 0
          have x1 : V4.cell? ⟨b5, 1, none⟩ = some (.slice none 0 0) := blk_at H5.out 1 rfl
          have z1 : V4.frozen? ⟨b5, 1, none⟩ = false := blk_frozen H5.out 1
          have x2 : V4.cell? ⟨b5, 2, none⟩ = some (.slice none 0 0) := blk_at H5.out 2 rfl
          have z2 : V4.frozen? ⟨b5, 2, none⟩ = false := blk_frozen H5.out 2
          refine skip_ (w1 := (((V4.setCell ⟨b5, 0, none⟩ (.int .i64 d.f0)).setCell ⟨b5, 1, none⟩ (.slice A3 d.f1.length c3)).setCell ⟨b5, 2, none⟩ (.slice B3 d.f2.length k3))) (by rfl) rfl (by go_simp) ?_
          replace R3 := Lib.hid (Kd.R_set (Kd.R_set (Kd.R_set R3.out H5.out (by decide) 0 (.int .i64 d.f0)) (blk_put H5.out 0 (.int .i64 d.f0) rfl) (by decide) 1 (.slice A3 d.f1.length c3)) (blk_put (blk_put H5.out 0 (.int .i64 d.f0) rfl) 1 (.slice A3 d.f1.length c3) rfl) (by decide) 2 (.slice B3 d.f2.length k3))
          replace G3 := Lib.hid (Kd.R_set (Kd.R_set (Kd.R_set G3.out H5.out (by decide) 0 (.int .i64 d.f0)) (blk_put H5.out 0 (.int .i64 d.f0) rfl) (by decide) 1 (.slice A3 d.f1.length c3)) (blk_put (blk_put H5.out 0 (.int .i64 d.f0) rfl) 1 (.slice A3 d.f1.length c3) rfl) (by decide) 2 (.slice B3 d.f2.length k3))
          replace R4 := Lib.hid (Kd.R_set (Kd.R_set (Kd.R_set R4.out H5.out (by decide) 0 (.int .i64 d.f0)) (blk_put H5.out 0 (.int .i64 d.f0) rfl) (by decide) 1 (.slice A3 d.f1.length c3)) (blk_put (blk_put H5.out 0 (.int .i64 d.f0) rfl) 1 (.slice A3 d.f1.length c3) rfl) (by decide) 2 (.slice B3 d.f2.length k3))
          replace G4 := Lib.hid (Kd.R_set (Kd.R_set (Kd.R_set G4.out H5.out (by decide) 0 (.int .i64 d.f0)) (blk_put H5.out 0 (.int .i64 d.f0) rfl) (by decide) 1 (.slice A3 d.f1.length c3)) (blk_put (blk_put H5.out 0 (.int .i64 d.f0) rfl) 1 (.slice A3 d.f1.length c3) rfl) (by decide) 2 (.slice B3 d.f2.length k3))
          replace H6 := Lib.hid (blk_far (blk_far (blk_far H6.out (p := ⟨b5, 0, none⟩) HNE.out.symm (.int .i64 d.f0)) (p := ⟨b5, 1, none⟩) HNE.out.symm (.slice A3 d.f1.length c3)) (p := ⟨b5, 2, none⟩) HNE.out.symm (.slice B3 d.f2.length k3))
          replace H5 := Lib.hid (blk_put (blk_put (blk_put H5.out 0 (.int .i64 d.f0) rfl) 1 (.slice A3 d.f1.length c3) rfl) 2 (.slice B3 d.f2.length k3) rfl)
          have HV5 : Hid (Below wb.heap.size wb (((V4.setCell ⟨b5, 0, none⟩ (.int .i64 d.f0)).setCell ⟨b5, 1, none⟩ (.slice A3 d.f1.length c3)).setCell ⟨b5, 2, none⟩ (.slice B3 d.f2.length k3))) := Lib.hid (((HV4.out.setCell (p := ⟨b5, 0, none⟩) gb5.out _).setCell (p := ⟨b5, 1, none⟩) gb5.out _).setCell (p := ⟨b5, 2, none⟩) gb5.out _)
          refine hK.out _ _ (HSt.out _ HV5.out) (fun hHeld => ?_)
          clear hK K hHeld HV4 x0 z0 x1 z1 x2 z2
          generalize (((V4.setCell ⟨b5, 0, none⟩ (.int .i64 d.f0)).setCell ⟨b5, 1, none⟩ (.slice A3 d.f1.length c3)).setCell ⟨b5, 2, none⟩ (.slice B3 d.f2.length k3)) = V5 at *
          refine one_ (i := 7) (N := none) #[true, true, true, true, true, true, true, true] rfl rfl (by kernel_rfl) (by decide) (fun K hK => ?_)
          have x0 : V5.cell? ⟨b6, 0, none⟩ = some (.int .i64 0) := blk_at H6.out 0 rfl
          have z0 : V5.frozen? ⟨b6, 0, none⟩ = false := blk_frozen H6.out 0
          have x1 : V5.cell? ⟨b6, 1, none⟩ = some (.slice none 0 0) := blk_at H6.out 1 rfl
          have z1 : V5.frozen? ⟨b6, 1, none⟩ = false := blk_frozen H6.out 1
          have x2 : V5.cell? ⟨b6, 2, none⟩ = some (.slice none 0 0) := blk_at H6.out 2 rfl
          have z2 : V5.frozen? ⟨b6, 2, none⟩ = false := blk_frozen H6.out 2
          refine skip_ (w1 := (((V5.setCell ⟨b6, 0, none⟩ (.int .i64 e.f0)).setCell ⟨b6, 1, none⟩ (.slice A4 e.f1.length c4)).setCell ⟨b6, 2, none⟩ (.slice B4 e.f2.length k4))) (by rfl) rfl (by go_simp) ?_
          replace R3 := Lib.hid (Kd.R_set (Kd.R_set (Kd.R_set R3.out H6.out (by decide) 0 (.int .i64 e.f0)) (blk_put H6.out 0 (.int .i64 e.f0) rfl) (by decide) 1 (.slice A4 e.f1.length c4)) (blk_put (blk_put H6.out 0 (.int .i64 e.f0) rfl) 1 (.slice A4 e.f1.length c4) rfl) (by decide) 2 (.slice B4 e.f2.length k4))
          replace G3 := Lib.hid (Kd.R_set (Kd.R_set (Kd.R_set G3.out H6.out (by decide) 0 (.int .i64 e.f0)) (blk_put H6.out 0 (.int .i64 e.f0) rfl) (by decide) 1 (.slice A4 e.f1.length c4)) (blk_put (blk_put H6.out 0 (.int .i64 e.f0) rfl) 1 (.slice A4 e.f1.length c4) rfl) (by decide) 2 (.slice B4 e.f2.length k4))
          replace R4 := Lib.hid (Kd.R_set (Kd.R_set (Kd.R_set R4.out H6.out (by decide) 0 (.int .i64 e.f0)) (blk_put H6.out 0 (.int .i64 e.f0) rfl) (by decide) 1 (.slice A4 e.f1.length c4)) (blk_put (blk_put H6.out 0 (.int .i64 e.f0) rfl) 1 (.slice A4 e.f1.length c4) rfl) (by decide) 2 (.slice B4 e.f2.length k4))
          replace G4 := Lib.hid (Kd.R_set (Kd.R_set (Kd.R_set G4.out H6.out (by decide) 0 (.int .i64 e.f0)) (blk_put H6.out 0 (.int .i64 e.f0) rfl) (by decide) 1 (.slice A4 e.f1.length c4)) (blk_put (blk_put H6.out 0 (.int .i64 e.f0) rfl) 1 (.slice A4 e.f1.length c4) rfl) (by decide) 2 (.slice B4 e.f2.length k4))
          replace H5 := Lib.hid (blk_far (blk_far (blk_far H5.out (p := ⟨b6, 0, none⟩) HNE.out (.int .i64 e.f0)) (p := ⟨b6, 1, none⟩) HNE.out (.slice A4 e.f1.length c4)) (p := ⟨b6, 2, none⟩) HNE.out (.slice B4 e.f2.length k4))
          replace H6 := Lib.hid (blk_put (blk_put (blk_put H6.out 0 (.int .i64 e.f0) rfl) 1 (.slice A4 e.f1.length c4) rfl) 2 (.slice B4 e.f2.length k4) rfl)
          have HV6 : Hid (Below wb.heap.size wb (((V5.setCell ⟨b6, 0, none⟩ (.int .i64 e.f0)).setCell ⟨b6, 1, none⟩ (.slice A4 e.f1.length c4)).setCell ⟨b6, 2, none⟩ (.slice B4 e.f2.length k4))) := Lib.hid (((HV5.out.setCell (p := ⟨b6, 0, none⟩) gb6.out _).setCell (p := ⟨b6, 1, none⟩) gb6.out _).setCell (p := ⟨b6, 2, none⟩) gb6.out _)
          refine hK.out _ _ (HSt.out _ HV6.out) (fun hHeld => ?_)
          clear hK K hHeld HV5 x0 z0 x1 z1 x2 z2
          generalize (((V5.setCell ⟨b6, 0, none⟩ (.int .i64 e.f0)).setCell ⟨b6, 1, none⟩ (.slice A4 e.f1.length c4)).setCell ⟨b6, 2, none⟩ (.slice B4 e.f2.length k4)) = V6 at *
          refine done_ (by kernel_rfl) ?_
          go_wp2_with (fail)
          go_meet
          exact ⟨b5, b6, A3, c3, B3, k3, A4, c4, B4, k4, rfl, rfl, H5, H6, R3, G3, R4, G4, HV6⟩
        · obtain ⟨b6, hnb⟩ : ∃ nb, nb = V2.heap.size := ⟨_, rfl⟩
          refine value_ (w1 := (V2.alloc (.cells #[.int .i64 0, .slice none 0 0, .slice none 0 0] 27))) (v := .pointer (some ⟨b6, 0, none⟩)) (by rfl) rfl (by rw [hnb]; go_simp) ?_
          have hal : Hid (Below V2.heap.size V2 (V2.alloc (.cells #[.int .i64 0, .slice none 0 0, .slice none 0 0] 27))) := Lib.hid ((Below.refl _ _).alloc (Nat.le_refl _) _)
          have H6 : Hid ((V2.alloc (.cells #[.int .i64 0, .slice none 0 0, .slice none 0 0] 27)).heap[b6]? = some (.cells #[.int .i64 0, .slice none 0 0, .slice none 0 0] 27 (0, 0))) := by rw [hnb]; exact Lib.hid (blk_new _ _)
          have gb6 : Hid (wb.heap.size ≤ b6) := by rw [hnb]; exact Lib.hid HV2.out.size
          have HNE : Hid (b5 ≠ b6) := Lib.hid (by have := blk_lt H5.out; omega)
          clear hnb
          generalize (V2.alloc (.cells #[.int .i64 0, .slice none 0 0, .slice none 0 0] 27)) = V3 at hal H6 ⊢
          replace R3 := Lib.hid (Kd.R_below R3.out hal.out)
          replace G3 := Lib.hid (Kd.R_below G3.out hal.out)
          replace H5 := Lib.hid (blk_below H5.out hal.out)
          have HV3 : Hid (Below wb.heap.size wb V3) := HV2.out.trans (hal.out.mono HV2.out.size)
          refine hK.out _ _ (HSt.out _ HV3.out) (fun hHeld => ?_)
          clear hK K hal HV2
          refine norm_ (a' := ?_) ?_ ?_
          rotate_left
          · show Act.put _ (some 6) _ = _
            go_simp
            rfl
          refine one_ (i := 3) (N := some 19) #[true, true, true, true, true, true, false, false] rfl rfl (by kernel_rfl) (by decide) (fun K hK => ?_)
          refine goes_ Try.func13 (by kernel_rfl) rfl #[.agg #[.int .i64 e.f0, .slice A2 e.f1.length c2, .slice B2 e.f2.length k2]] (by rfl) rfl rfl (by simp only [List.map_toArray, List.map_cons, List.map_nil]; rfl) ?_
          refine ((HCE.out V3 (HBw.out.trans (HV3.out.mono HBw.out.size)))).mono ?_
          rintro e' V4 ⟨A4, c4, B4, k4, rfl, R4, G4, hb⟩
          refine ⟨_, rfl, ?_⟩
          replace R3 := Lib.hid (Kd.R_below R3.out hb.out)
          replace G3 := Lib.hid (Kd.R_below G3.out hb.out)
          replace H5 := Lib.hid (blk_below H5.out hb.out)
          replace H6 := Lib.hid (blk_below H6.out hb.out)
          have HV4 : Hid (Below wb.heap.size wb V4) := HV3.out.trans (hb.out.mono HV3.out.size)
          replace R4 := Lib.hid (Kd.R_lower R4.out HV3.out.size)
          replace G4 := Lib.hid (Kd.R_lower G4.out HV3.out.size)
          refine hK.out _ _ (HSt.out _ HV4.out) (fun hHeld => ?_)
          clear hK K hb HV3
          refine norm_ (a' := ?_) ?_ ?_
          rotate_left
          · show Act.put _ (some 19) _ = _
            go_simp
            rfl
          refine one_ (i := 6) (N := none) #[true, true, true, true, true, true, true, false] rfl rfl (by kernel_rfl) (by decide) (fun K hK => ?_)
          have x0 : V4.cell? ⟨b5, 0, none⟩ = some (.int .i64 0) := blk_at H5.out 0 rfl
          have z0 : V4.frozen? ⟨b5, 0, none⟩ = false := blk_frozen H5.out 0
          have x1 : V4.cell? ⟨b5, 1, none⟩ = some (.slice none 0 0) := blk_at H5.out 1 rfl
          have z1 : V4.frozen? ⟨b5, 1, none⟩ = false := blk_frozen H5.out 1
          have x2 : V4.cell? ⟨b5, 2, none⟩ = some (.slice none 0 0) := blk_at H5.out 2 rfl
          have z2 : V4.frozen? ⟨b5, 2, none⟩ = false := blk_frozen H5.out 2
          refine skip_ (w1 := (((V4.setCell ⟨b5, 0, none⟩ (.int .i64 d.f0)).setCell ⟨b5, 1, none⟩ (.slice A3 d.f1.length c3)).setCell ⟨b5, 2, none⟩ (.slice B3 d.f2.length k3))) (by rfl) rfl (by go_simp) ?_
          replace R3 := Lib.hid (Kd.R_set (Kd.R_set (Kd.R_set R3.out H5.out (by decide) 0 (.int .i64 d.f0)) (blk_put H5.out 0 (.int .i64 d.f0) rfl) (by decide) 1 (.slice A3 d.f1.length c3)) (blk_put (blk_put H5.out 0 (.int .i64 d.f0) rfl) 1 (.slice A3 d.f1.length c3) rfl) (by decide) 2 (.slice B3 d.f2.length k3))
          replace G3 := Lib.hid (Kd.R_set (Kd.R_set (Kd.R_set G3.out H5.out (by decide) 0 (.int .i64 d.f0)) (blk_put H5.out 0 (.int .i64 d.f0) rfl) (by decide) 1 (.slice A3 d.f1.length c3)) (blk_put (blk_put H5.out 0 (.int .i64 d.f0) rfl) 1 (.slice A3 d.f1.length c3) rfl) (by decide) 2 (.slice B3 d.f2.length k3))
          replace R4 := Lib.hid (Kd.R_set (Kd.R_set (Kd.R_set R4.out H5.out (by decide) 0 (.int .i64 d.f0)) (blk_put H5.out 0 (.int .i64 d.f0) rfl) (by decide) 1 (.slice A3 d.f1.length c3)) (blk_put (blk_put H5.out 0 (.int .i64 d.f0) rfl) 1 (.slice A3 d.f1.length c3) rfl) (by decide) 2 (.slice B3 d.f2.length k3))
          replace G4 := Lib.hid (Kd.R_set (Kd.R_set (Kd.R_set G4.out H5.out (by decide) 0 (.int .i64 d.f0)) (blk_put H5.out 0 (.int .i64 d.f0) rfl) (by decide) 1 (.slice A3 d.f1.length c3)) (blk_put (blk_put H5.out 0 (.int .i64 d.f0) rfl) 1 (.slice A3 d.f1.length c3) rfl) (by decide) 2 (.slice B3 d.f2.length k3))
          replace H6 := Lib.hid (blk_far (blk_far (blk_far H6.out (p := ⟨b5, 0, none⟩) HNE.out.symm (.int .i64 d.f0)) (p := ⟨b5, 1, none⟩) HNE.out.symm (.slice A3 d.f1.length c3)) (p := ⟨b5, 2, none⟩) HNE.out.symm (.slice B3 d.f2.length k3))
          replace H5 := Lib.hid (blk_put (blk_put (blk_put H5.out 0 (.int .i64 d.f0) rfl) 1 (.slice A3 d.f1.length c3) rfl) 2 (.slice B3 d.f2.length k3) rfl)
          have HV5 : Hid (Below wb.heap.size wb (((V4.setCell ⟨b5, 0, none⟩ (.int .i64 d.f0)).setCell ⟨b5, 1, none⟩ (.slice A3 d.f1.length c3)).setCell ⟨b5, 2, none⟩ (.slice B3 d.f2.length k3))) := Lib.hid (((HV4.out.setCell (p := ⟨b5, 0, none⟩) gb5.out _).setCell (p := ⟨b5, 1, none⟩) gb5.out _).setCell (p := ⟨b5, 2, none⟩) gb5.out _)
          refine hK.out _ _ (HSt.out _ HV5.out) (fun hHeld => ?_)
          clear hK K hHeld HV4 x0 z0 x1 z1 x2 z2
          generalize (((V4.setCell ⟨b5, 0, none⟩ (.int .i64 d.f0)).setCell ⟨b5, 1, none⟩ (.slice A3 d.f1.length c3)).setCell ⟨b5, 2, none⟩ (.slice B3 d.f2.length k3)) = V5 at *
          refine one_ (i := 7) (N := none) #[true, true, true, true, true, true, true, true] rfl rfl (by kernel_rfl) (by decide) (fun K hK => ?_)
          have x0 : V5.cell? ⟨b6, 0, none⟩ = some (.int .i64 0) := blk_at H6.out 0 rfl
          have z0 : V5.frozen? ⟨b6, 0, none⟩ = false := blk_frozen H6.out 0
          have x1 : V5.cell? ⟨b6, 1, none⟩ = some (.slice none 0 0) := blk_at H6.out 1 rfl
          have z1 : V5.frozen? ⟨b6, 1, none⟩ = false := blk_frozen H6.out 1
          have x2 : V5.cell? ⟨b6, 2, none⟩ = some (.slice none 0 0) := blk_at H6.out 2 rfl
          have z2 : V5.frozen? ⟨b6, 2, none⟩ = false := blk_frozen H6.out 2
          refine skip_ (w1 := (((V5.setCell ⟨b6, 0, none⟩ (.int .i64 e.f0)).setCell ⟨b6, 1, none⟩ (.slice A4 e.f1.length c4)).setCell ⟨b6, 2, none⟩ (.slice B4 e.f2.length k4))) (by rfl) rfl (by go_simp) ?_
          replace R3 := Lib.hid (Kd.R_set (Kd.R_set (Kd.R_set R3.out H6.out (by decide) 0 (.int .i64 e.f0)) (blk_put H6.out 0 (.int .i64 e.f0) rfl) (by decide) 1 (.slice A4 e.f1.length c4)) (blk_put (blk_put H6.out 0 (.int .i64 e.f0) rfl) 1 (.slice A4 e.f1.length c4) rfl) (by decide) 2 (.slice B4 e.f2.length k4))
          replace G3 := Lib.hid (Kd.R_set (Kd.R_set (Kd.R_set G3.out H6.out (by decide) 0 (.int .i64 e.f0)) (blk_put H6.out 0 (.int .i64 e.f0) rfl) (by decide) 1 (.slice A4 e.f1.length c4)) (blk_put (blk_put H6.out 0 (.int .i64 e.f0) rfl) 1 (.slice A4 e.f1.length c4) rfl) (by decide) 2 (.slice B4 e.f2.length k4))
          replace R4 := Lib.hid (Kd.R_set (Kd.R_set (Kd.R_set R4.out H6.out (by decide) 0 (.int .i64 e.f0)) (blk_put H6.out 0 (.int .i64 e.f0) rfl) (by decide) 1 (.slice A4 e.f1.length c4)) (blk_put (blk_put H6.out 0 (.int .i64 e.f0) rfl) 1 (.slice A4 e.f1.length c4) rfl) (by decide) 2 (.slice B4 e.f2.length k4))
          replace G4 := Lib.hid (Kd.R_set (Kd.R_set (Kd.R_set G4.out H6.out (by decide) 0 (.int .i64 e.f0)) (blk_put H6.out 0 (.int .i64 e.f0) rfl) (by decide) 1 (.slice A4 e.f1.length c4)) (blk_put (blk_put H6.out 0 (.int .i64 e.f0) rfl) 1 (.slice A4 e.f1.length c4) rfl) (by decide) 2 (.slice B4 e.f2.length k4))
          replace H5 := Lib.hid (blk_far (blk_far (blk_far H5.out (p := ⟨b6, 0, none⟩) HNE.out (.int .i64 e.f0)) (p := ⟨b6, 1, none⟩) HNE.out (.slice A4 e.f1.length c4)) (p := ⟨b6, 2, none⟩) HNE.out (.slice B4 e.f2.length k4))
          replace H6 := Lib.hid (blk_put (blk_put (blk_put H6.out 0 (.int .i64 e.f0) rfl) 1 (.slice A4 e.f1.length c4) rfl) 2 (.slice B4 e.f2.length k4) rfl)
          have HV6 : Hid (Below wb.heap.size wb (((V5.setCell ⟨b6, 0, none⟩ (.int .i64 e.f0)).setCell ⟨b6, 1, none⟩ (.slice A4 e.f1.length c4)).setCell ⟨b6, 2, none⟩ (.slice B4 e.f2.length k4))) := Lib.hid (((HV5.out.setCell (p := ⟨b6, 0, none⟩) gb6.out _).setCell (p := ⟨b6, 1, none⟩) gb6.out _).setCell (p := ⟨b6, 2, none⟩) gb6.out _)
          refine hK.out _ _ (HSt.out _ HV6.out) (fun hHeld => ?_)
          clear hK K hHeld HV5 x0 z0 x1 z1 x2 z2
          generalize (((V5.setCell ⟨b6, 0, none⟩ (.int .i64 e.f0)).setCell ⟨b6, 1, none⟩ (.slice A4 e.f1.length c4)).setCell ⟨b6, 2, none⟩ (.slice B4 e.f2.length k4)) = V6 at *
          refine done_ (by kernel_rfl) ?_
          go_wp2_with (fail)
          go_meet
          exact ⟨b5, b6, A3, c3, B3, k3, A4, c4, B4, k4, rfl, rfl, H5, H6, R3, G3, R4, G4, HV6⟩
      · obtain ⟨b6, hnb⟩ : ∃ nb, nb = V1.heap.size := ⟨_, rfl⟩
        refine value_ (w1 := (V1.alloc (.cells #[.int .i64 0, .slice none 0 0, .slice none 0 0] 27))) (v := .pointer (some ⟨b6, 0, none⟩)) (by rfl) rfl (by rw [hnb]; go_simp) ?_
        have hal : Hid (Below V1.heap.size V1 (V1.alloc (.cells #[.int .i64 0, .slice none 0 0, .slice none 0 0] 27))) := Lib.hid ((Below.refl _ _).alloc (Nat.le_refl _) _)
        have H6 : Hid ((V1.alloc (.cells #[.int .i64 0, .slice none 0 0, .slice none 0 0] 27)).heap[b6]? = some (.cells #[.int .i64 0, .slice none 0 0, .slice none 0 0] 27 (0, 0))) := by rw [hnb]; exact Lib.hid (blk_new _ _)
        have gb6 : Hid (wb.heap.size ≤ b6) := by rw [hnb]; exact Lib.hid HV1.out.size
        clear hnb
        generalize (V1.alloc (.cells #[.int .i64 0, .slice none 0 0, .slice none 0 0] 27)) = V2 at hal H6 ⊢
        replace R3 := Lib.hid (Kd.R_below R3.out hal.out)
        replace G3 := Lib.hid (Kd.R_below G3.out hal.out)
        have HV2 : Hid (Below wb.heap.size wb V2) := HV1.out.trans (hal.out.mono HV1.out.size)
        refine hK.out _ _ (HSt.out _ HV2.out) (fun hHeld => ?_)
        clear hK K hal HV1
        refine norm_ (a' := ?_) ?_ ?_
        rotate_left
        · show Act.put _ (some 6) _ = _
          go_simp
          rfl
        refine two_ (i := 3) (j := 4) (Ni := some 19) (Nj := some 5) #[true, true, true, true, false, true, false, false] #[true, true, true, false, true, true, false, false] rfl rfl rfl rfl (by kernel_rfl) (by decide) (by decide) (fun K hK => ?_) (fun K hK => ?_)
        · refine goes_ Try.func13 (by kernel_rfl) rfl #[.agg #[.int .i64 e.f0, .slice A2 e.f1.length c2, .slice B2 e.f2.length k2]] (by rfl) rfl rfl (by simp only [List.map_toArray, List.map_cons, List.map_nil]; rfl) ?_
          refine ((HCE.out V2 (HBw.out.trans (HV2.out.mono HBw.out.size)))).mono ?_
          rintro e' V3 ⟨A4, c4, B4, k4, rfl, R4, G4, hb⟩
          refine ⟨_, rfl, ?_⟩
          replace R3 := Lib.hid (Kd.R_below R3.out hb.out)
          replace G3 := Lib.hid (Kd.R_below G3.out hb.out)
          replace H6 := Lib.hid (blk_below H6.out hb.out)
          have HV3 : Hid (Below wb.heap.size wb V3) := HV2.out.trans (hb.out.mono HV2.out.size)
          replace R4 := Lib.hid (Kd.R_lower R4.out HV2.out.size)
          replace G4 := Lib.hid (Kd.R_lower G4.out HV2.out.size)
          refine hK.out _ _ (HSt.out _ HV3.out) (fun hHeld => ?_)
          clear hK K hb HV2
          refine norm_ (a' := ?_) ?_ ?_
          rotate_left
          · show Act.put _ (some 19) _ = _
            go_simp
            rfl
          refine one_ (i := 4) (N := some 5) #[true, true, true, true, true, true, false, false] rfl rfl (by kernel_rfl) (by decide) (fun K hK => ?_)
          obtain ⟨b5, hnb⟩ : ∃ nb, nb = V3.heap.size := ⟨_, rfl⟩
          refine value_ (w1 := (V3.alloc (.cells #[.int .i64 0, .slice none 0 0, .slice none 0 0] 27))) (v := .pointer (some ⟨b5, 0, none⟩)) (by rfl) rfl (by rw [hnb]; go_simp) ?_
          have hal : Hid (Below V3.heap.size V3 (V3.alloc (.cells #[.int .i64 0, .slice none 0 0, .slice none 0 0] 27))) := Lib.hid ((Below.refl _ _).alloc (Nat.le_refl _) _)
          have H5 : Hid ((V3.alloc (.cells #[.int .i64 0, .slice none 0 0, .slice none 0 0] 27)).heap[b5]? = some (.cells #[.int .i64 0, .slice none 0 0, .slice none 0 0] 27 (0, 0))) := by rw [hnb]; exact Lib.hid (blk_new _ _)
          have gb5 : Hid (wb.heap.size ≤ b5) := by rw [hnb]; exact Lib.hid HV3.out.size
          have HNE : Hid (b5 ≠ b6) := Lib.hid (by have := blk_lt H6.out; omega)
          clear hnb
          generalize (V3.alloc (.cells #[.int .i64 0, .slice none 0 0, .slice none 0 0] 27)) = V4 at hal H5 ⊢
          replace R3 := Lib.hid (Kd.R_below R3.out hal.out)
          replace G3 := Lib.hid (Kd.R_below G3.out hal.out)
          replace R4 := Lib.hid (Kd.R_below R4.out hal.out)
          replace G4 := Lib.hid (Kd.R_below G4.out hal.out)
          replace H6 := Lib.hid (blk_below H6.out hal.out)
          have HV4 : Hid (Below wb.heap.size wb V4) := HV3.out.trans (hal.out.mono HV3.out.size)
          refine hK.out _ _ (HSt.out _ HV4.out) (fun hHeld => ?_)
          clear hK K hal HV3
          refine norm_ (a' := ?_) ?_ ?_
          rotate_left
          · show Act.put _ (some 5) _ = _
            go_simp
            rfl
          refine one_ (i := 6) (N := none) #[true, true, true, true, true, true, true, false] rfl rfl (by kernel_rfl) (by decide) (fun K hK => ?_)
          have x0 : V4.cell? ⟨b5, 0, none⟩ = some (.int .i64 0) := blk_at H5.out 0 rfl
          have z0 : V4.frozen? ⟨b5, 0, none⟩ = false := blk_frozen H5.out 0
          have x1 : V4.cell? ⟨b5, 1, none⟩ = some (.slice none 0 0) := blk_at H5.out 1 rfl
          have z1 : V4.frozen? ⟨b5, 1, none⟩ = false := blk_frozen H5.out 1
          have x2 : V4.cell? ⟨b5, 2, none⟩ = some (.slice none 0 0) := blk_at H5.out 2 rfl
          have z2 : V4.frozen? ⟨b5, 2, none⟩ = false := blk_frozen H5.out 2
          refine skip_ (w1 := (((V4.setCell ⟨b5, 0, none⟩ (.int .i64 d.f0)).setCell ⟨b5, 1, none⟩ (.slice A3 d.f1.length c3)).setCell ⟨b5, 2, none⟩ (.slice B3 d.f2.length k3))) (by rfl) rfl (by go_simp) ?_
          replace R3 := Lib.hid (Kd.R_set (Kd.R_set (Kd.R_set R3.out H5.out (by decide) 0 (.int .i64 d.f0)) (blk_put H5.out 0 (.int .i64 d.f0) rfl) (by decide) 1 (.slice A3 d.f1.length c3)) (blk_put (blk_put H5.out 0 (.int .i64 d.f0) rfl) 1 (.slice A3 d.f1.length c3) rfl) (by decide) 2 (.slice B3 d.f2.length k3))
          replace G3 := Lib.hid (Kd.R_set (Kd.R_set (Kd.R_set G3.out H5.out (by decide) 0 (.int .i64 d.f0)) (blk_put H5.out 0 (.int .i64 d.f0) rfl) (by decide) 1 (.slice A3 d.f1.length c3)) (blk_put (blk_put H5.out 0 (.int .i64 d.f0) rfl) 1 (.slice A3 d.f1.length c3) rfl) (by decide) 2 (.slice B3 d.f2.length k3))
          replace R4 := Lib.hid (Kd.R_set (Kd.R_set (Kd.R_set R4.out H5.out (by decide) 0 (.int .i64 d.f0)) (blk_put H5.out 0 (.int .i64 d.f0) rfl) (by decide) 1 (.slice A3 d.f1.length c3)) (blk_put (blk_put H5.out 0 (.int .i64 d.f0) rfl) 1 (.slice A3 d.f1.length c3) rfl) (by decide) 2 (.slice B3 d.f2.length k3))
          replace G4 := Lib.hid (Kd.R_set (Kd.R_set (Kd.R_set G4.out H5.out (by decide) 0 (.int .i64 d.f0)) (blk_put H5.out 0 (.int .i64 d.f0) rfl) (by decide) 1 (.slice A3 d.f1.length c3)) (blk_put (blk_put H5.out 0 (.int .i64 d.f0) rfl) 1 (.slice A3 d.f1.length c3) rfl) (by decide) 2 (.slice B3 d.f2.length k3))
          replace H6 := Lib.hid (blk_far (blk_far (blk_far H6.out (p := ⟨b5, 0, none⟩) HNE.out.symm (.int .i64 d.f0)) (p := ⟨b5, 1, none⟩) HNE.out.symm (.slice A3 d.f1.length c3)) (p := ⟨b5, 2, none⟩) HNE.out.symm (.slice B3 d.f2.length k3))
          replace H5 := Lib.hid (blk_put (blk_put (blk_put H5.out 0 (.int .i64 d.f0) rfl) 1 (.slice A3 d.f1.length c3) rfl) 2 (.slice B3 d.f2.length k3) rfl)
          have HV5 : Hid (Below wb.heap.size wb (((V4.setCell ⟨b5, 0, none⟩ (.int .i64 d.f0)).setCell ⟨b5, 1, none⟩ (.slice A3 d.f1.length c3)).setCell ⟨b5, 2, none⟩ (.slice B3 d.f2.length k3))) := Lib.hid (((HV4.out.setCell (p := ⟨b5, 0, none⟩) gb5.out _).setCell (p := ⟨b5, 1, none⟩) gb5.out _).setCell (p := ⟨b5, 2, none⟩) gb5.out _)
          refine hK.out _ _ (HSt.out _ HV5.out) (fun hHeld => ?_)
          clear hK K hHeld HV4 x0 z0 x1 z1 x2 z2
          generalize (((V4.setCell ⟨b5, 0, none⟩ (.int .i64 d.f0)).setCell ⟨b5, 1, none⟩ (.slice A3 d.f1.length c3)).setCell ⟨b5, 2, none⟩ (.slice B3 d.f2.length k3)) = V5 at *
          refine one_ (i := 7) (N := none) #[true, true, true, true, true, true, true, true] rfl rfl (by kernel_rfl) (by decide) (fun K hK => ?_)
          have x0 : V5.cell? ⟨b6, 0, none⟩ = some (.int .i64 0) := blk_at H6.out 0 rfl
          have z0 : V5.frozen? ⟨b6, 0, none⟩ = false := blk_frozen H6.out 0
          have x1 : V5.cell? ⟨b6, 1, none⟩ = some (.slice none 0 0) := blk_at H6.out 1 rfl
          have z1 : V5.frozen? ⟨b6, 1, none⟩ = false := blk_frozen H6.out 1
          have x2 : V5.cell? ⟨b6, 2, none⟩ = some (.slice none 0 0) := blk_at H6.out 2 rfl
          have z2 : V5.frozen? ⟨b6, 2, none⟩ = false := blk_frozen H6.out 2
          refine skip_ (w1 := (((V5.setCell ⟨b6, 0, none⟩ (.int .i64 e.f0)).setCell ⟨b6, 1, none⟩ (.slice A4 e.f1.length c4)).setCell ⟨b6, 2, none⟩ (.slice B4 e.f2.length k4))) (by rfl) rfl (by go_simp) ?_
          replace R3 := Lib.hid (Kd.R_set (Kd.R_set (Kd.R_set R3.out H6.out (by decide) 0 (.int .i64 e.f0)) (blk_put H6.out 0 (.int .i64 e.f0) rfl) (by decide) 1 (.slice A4 e.f1.length c4)) (blk_put (blk_put H6.out 0 (.int .i64 e.f0) rfl) 1 (.slice A4 e.f1.length c4) rfl) (by decide) 2 (.slice B4 e.f2.length k4))
          replace G3 := Lib.hid (Kd.R_set (Kd.R_set (Kd.R_set G3.out H6.out (by decide) 0 (.int .i64 e.f0)) (blk_put H6.out 0 (.int .i64 e.f0) rfl) (by decide) 1 (.slice A4 e.f1.length c4)) (blk_put (blk_put H6.out 0 (.int .i64 e.f0) rfl) 1 (.slice A4 e.f1.length c4) rfl) (by decide) 2 (.slice B4 e.f2.length k4))
          replace R4 := Lib.hid (Kd.R_set (Kd.R_set (Kd.R_set R4.out H6.out (by decide) 0 (.int .i64 e.f0)) (blk_put H6.out 0 (.int .i64 e.f0) rfl) (by decide) 1 (.slice A4 e.f1.length c4)) (blk_put (blk_put H6.out 0 (.int .i64 e.f0) rfl) 1 (.slice A4 e.f1.length c4) rfl) (by decide) 2 (.slice B4 e.f2.length k4))
          replace G4 := Lib.hid (Kd.R_set (Kd.R_set (Kd.R_set G4.out H6.out (by decide) 0 (.int .i64 e.f0)) (blk_put H6.out 0 (.int .i64 e.f0) rfl) (by decide) 1 (.slice A4 e.f1.length c4)) (blk_put (blk_put H6.out 0 (.int .i64 e.f0) rfl) 1 (.slice A4 e.f1.length c4) rfl) (by decide) 2 (.slice B4 e.f2.length k4))
          replace H5 := Lib.hid (blk_far (blk_far (blk_far H5.out (p := ⟨b6, 0, none⟩) HNE.out (.int .i64 e.f0)) (p := ⟨b6, 1, none⟩) HNE.out (.slice A4 e.f1.length c4)) (p := ⟨b6, 2, none⟩) HNE.out (.slice B4 e.f2.length k4))
          replace H6 := Lib.hid (blk_put (blk_put (blk_put H6.out 0 (.int .i64 e.f0) rfl) 1 (.slice A4 e.f1.length c4) rfl) 2 (.slice B4 e.f2.length k4) rfl)
          have HV6 : Hid (Below wb.heap.size wb (((V5.setCell ⟨b6, 0, none⟩ (.int .i64 e.f0)).setCell ⟨b6, 1, none⟩ (.slice A4 e.f1.length c4)).setCell ⟨b6, 2, none⟩ (.slice B4 e.f2.length k4))) := Lib.hid (((HV5.out.setCell (p := ⟨b6, 0, none⟩) gb6.out _).setCell (p := ⟨b6, 1, none⟩) gb6.out _).setCell (p := ⟨b6, 2, none⟩) gb6.out _)
          refine hK.out _ _ (HSt.out _ HV6.out) (fun hHeld => ?_)
          clear hK K hHeld HV5 x0 z0 x1 z1 x2 z2
          generalize (((V5.setCell ⟨b6, 0, none⟩ (.int .i64 e.f0)).setCell ⟨b6, 1, none⟩ (.slice A4 e.f1.length c4)).setCell ⟨b6, 2, none⟩ (.slice B4 e.f2.length k4)) = V6 at *
          refine done_ (by kernel_rfl) ?_
          go_wp2_with (fail)
          go_meet
          exact ⟨b5, b6, A3, c3, B3, k3, A4, c4, B4, k4, rfl, rfl, H5, H6, R3, G3, R4, G4, HV6⟩
        · obtain ⟨b5, hnb⟩ : ∃ nb, nb = V2.heap.size := ⟨_, rfl⟩
          refine value_ (w1 := (V2.alloc (.cells #[.int .i64 0, .slice none 0 0, .slice none 0 0] 27))) (v := .pointer (some ⟨b5, 0, none⟩)) (by rfl) rfl (by rw [hnb]; go_simp) ?_
          have hal : Hid (Below V2.heap.size V2 (V2.alloc (.cells #[.int .i64 0, .slice none 0 0, .slice none 0 0] 27))) := Lib.hid ((Below.refl _ _).alloc (Nat.le_refl _) _)
          have H5 : Hid ((V2.alloc (.cells #[.int .i64 0, .slice none 0 0, .slice none 0 0] 27)).heap[b5]? = some (.cells #[.int .i64 0, .slice none 0 0, .slice none 0 0] 27 (0, 0))) := by rw [hnb]; exact Lib.hid (blk_new _ _)
          have gb5 : Hid (wb.heap.size ≤ b5) := by rw [hnb]; exact Lib.hid HV2.out.size
          have HNE : Hid (b5 ≠ b6) := Lib.hid (by have := blk_lt H6.out; omega)
          clear hnb
          generalize (V2.alloc (.cells #[.int .i64 0, .slice none 0 0, .slice none 0 0] 27)) = V3 at hal H5 ⊢
          replace R3 := Lib.hid (Kd.R_below R3.out hal.out)
          replace G3 := Lib.hid (Kd.R_below G3.out hal.out)
          replace H6 := Lib.hid (blk_below H6.out hal.out)
          have HV3 : Hid (Below wb.heap.size wb V3) := HV2.out.trans (hal.out.mono HV2.out.size)
          refine hK.out _ _ (HSt.out _ HV3.out) (fun hHeld => ?_)
          clear hK K hal HV2
          refine norm_ (a' := ?_) ?_ ?_
          rotate_left
          · show Act.put _ (some 5) _ = _
            go_simp
            rfl
          refine one_ (i := 3) (N := some 19) #[true, true, true, true, true, true, false, false] rfl rfl (by kernel_rfl) (by decide) (fun K hK => ?_)
          refine goes_ Try.func13 (by kernel_rfl) rfl #[.agg #[.int .i64 e.f0, .slice A2 e.f1.length c2, .slice B2 e.f2.length k2]] (by rfl) rfl rfl (by simp only [List.map_toArray, List.map_cons, List.map_nil]; rfl) ?_
          refine ((HCE.out V3 (HBw.out.trans (HV3.out.mono HBw.out.size)))).mono ?_
          rintro e' V4 ⟨A4, c4, B4, k4, rfl, R4, G4, hb⟩
          refine ⟨_, rfl, ?_⟩
          replace R3 := Lib.hid (Kd.R_below R3.out hb.out)
          replace G3 := Lib.hid (Kd.R_below G3.out hb.out)
          replace H6 := Lib.hid (blk_below H6.out hb.out)
          replace H5 := Lib.hid (blk_below H5.out hb.out)
          have HV4 : Hid (Below wb.heap.size wb V4) := HV3.out.trans (hb.out.mono HV3.out.size)
          replace R4 := Lib.hid (Kd.R_lower R4.out HV3.out.size)
          replace G4 := Lib.hid (Kd.R_lower G4.out HV3.out.size)
          refine hK.out _ _ (HSt.out _ HV4.out) (fun hHeld => ?_)
          clear hK K hb HV3
          refine norm_ (a' := ?_) ?_ ?_
          rotate_left
          · show Act.put _ (some 19) _ = _
            go_simp
            rfl
          refine one_ (i := 6) (N := none) #[true, true, true, true, true, true, true, false] rfl rfl (by kernel_rfl) (by decide) (fun K hK => ?_)
          have x0 : V4.cell? ⟨b5, 0, none⟩ = some (.int .i64 0) := blk_at H5.out 0 rfl
          have z0 : V4.frozen? ⟨b5, 0, none⟩ = false := blk_frozen H5.out 0
          have x1 : V4.cell? ⟨b5, 1, none⟩ = some (.slice none 0 0) := blk_at H5.out 1 rfl
          have z1 : V4.frozen? ⟨b5, 1, none⟩ = false := blk_frozen H5.out 1
          have x2 : V4.cell? ⟨b5, 2, none⟩ = some (.slice none 0 0) := blk_at H5.out 2 rfl
          have z2 : V4.frozen? ⟨b5, 2, none⟩ = false := blk_frozen H5.out 2
          refine skip_ (w1 := (((V4.setCell ⟨b5, 0, none⟩ (.int .i64 d.f0)).setCell ⟨b5, 1, none⟩ (.slice A3 d.f1.length c3)).setCell ⟨b5, 2, none⟩ (.slice B3 d.f2.length k3))) (by rfl) rfl (by go_simp) ?_
          replace R3 := Lib.hid (Kd.R_set (Kd.R_set (Kd.R_set R3.out H5.out (by decide) 0 (.int .i64 d.f0)) (blk_put H5.out 0 (.int .i64 d.f0) rfl) (by decide) 1 (.slice A3 d.f1.length c3)) (blk_put (blk_put H5.out 0 (.int .i64 d.f0) rfl) 1 (.slice A3 d.f1.length c3) rfl) (by decide) 2 (.slice B3 d.f2.length k3))
          replace G3 := Lib.hid (Kd.R_set (Kd.R_set (Kd.R_set G3.out H5.out (by decide) 0 (.int .i64 d.f0)) (blk_put H5.out 0 (.int .i64 d.f0) rfl) (by decide) 1 (.slice A3 d.f1.length c3)) (blk_put (blk_put H5.out 0 (.int .i64 d.f0) rfl) 1 (.slice A3 d.f1.length c3) rfl) (by decide) 2 (.slice B3 d.f2.length k3))
          replace R4 := Lib.hid (Kd.R_set (Kd.R_set (Kd.R_set R4.out H5.out (by decide) 0 (.int .i64 d.f0)) (blk_put H5.out 0 (.int .i64 d.f0) rfl) (by decide) 1 (.slice A3 d.f1.length c3)) (blk_put (blk_put H5.out 0 (.int .i64 d.f0) rfl) 1 (.slice A3 d.f1.length c3) rfl) (by decide) 2 (.slice B3 d.f2.length k3))
          replace G4 := Lib.hid (Kd.R_set (Kd.R_set (Kd.R_set G4.out H5.out (by decide) 0 (.int .i64 d.f0)) (blk_put H5.out 0 (.int .i64 d.f0) rfl) (by decide) 1 (.slice A3 d.f1.length c3)) (blk_put (blk_put H5.out 0 (.int .i64 d.f0) rfl) 1 (.slice A3 d.f1.length c3) rfl) (by decide) 2 (.slice B3 d.f2.length k3))
          replace H6 := Lib.hid (blk_far (blk_far (blk_far H6.out (p := ⟨b5, 0, none⟩) HNE.out.symm (.int .i64 d.f0)) (p := ⟨b5, 1, none⟩) HNE.out.symm (.slice A3 d.f1.length c3)) (p := ⟨b5, 2, none⟩) HNE.out.symm (.slice B3 d.f2.length k3))
          replace H5 := Lib.hid (blk_put (blk_put (blk_put H5.out 0 (.int .i64 d.f0) rfl) 1 (.slice A3 d.f1.length c3) rfl) 2 (.slice B3 d.f2.length k3) rfl)
          have HV5 : Hid (Below wb.heap.size wb (((V4.setCell ⟨b5, 0, none⟩ (.int .i64 d.f0)).setCell ⟨b5, 1, none⟩ (.slice A3 d.f1.length c3)).setCell ⟨b5, 2, none⟩ (.slice B3 d.f2.length k3))) := Lib.hid (((HV4.out.setCell (p := ⟨b5, 0, none⟩) gb5.out _).setCell (p := ⟨b5, 1, none⟩) gb5.out _).setCell (p := ⟨b5, 2, none⟩) gb5.out _)
          refine hK.out _ _ (HSt.out _ HV5.out) (fun hHeld => ?_)
          clear hK K hHeld HV4 x0 z0 x1 z1 x2 z2
          generalize (((V4.setCell ⟨b5, 0, none⟩ (.int .i64 d.f0)).setCell ⟨b5, 1, none⟩ (.slice A3 d.f1.length c3)).setCell ⟨b5, 2, none⟩ (.slice B3 d.f2.length k3)) = V5 at *
          refine one_ (i := 7) (N := none) #[true, true, true, true, true, true, true, true] rfl rfl (by kernel_rfl) (by decide) (fun K hK => ?_)
          have x0 : V5.cell? ⟨b6, 0, none⟩ = some (.int .i64 0) := blk_at H6.out 0 rfl
          have z0 : V5.frozen? ⟨b6, 0, none⟩ = false := blk_frozen H6.out 0
          have x1 : V5.cell? ⟨b6, 1, none⟩ = some (.slice none 0 0) := blk_at H6.out 1 rfl
          have z1 : V5.frozen? ⟨b6, 1, none⟩ = false := blk_frozen H6.out 1
          have x2 : V5.cell? ⟨b6, 2, none⟩ = some (.slice none 0 0) := blk_at H6.out 2 rfl
          have z2 : V5.frozen? ⟨b6, 2, none⟩ = false := blk_frozen H6.out 2
          refine skip_ (w1 := (((V5.setCell ⟨b6, 0, none⟩ (.int .i64 e.f0)).setCell ⟨b6, 1, none⟩ (.slice A4 e.f1.length c4)).setCell ⟨b6, 2, none⟩ (.slice B4 e.f2.length k4))) (by rfl) rfl (by go_simp) ?_
          replace R3 := Lib.hid (Kd.R_set (Kd.R_set (Kd.R_set R3.out H6.out (by decide) 0 (.int .i64 e.f0)) (blk_put H6.out 0 (.int .i64 e.f0) rfl) (by decide) 1 (.slice A4 e.f1.length c4)) (blk_put (blk_put H6.out 0 (.int .i64 e.f0) rfl) 1 (.slice A4 e.f1.length c4) rfl) (by decide) 2 (.slice B4 e.f2.length k4))
          replace G3 := Lib.hid (Kd.R_set (Kd.R_set (Kd.R_set G3.out H6.out (by decide) 0 (.int .i64 e.f0)) (blk_put H6.out 0 (.int .i64 e.f0) rfl) (by decide) 1 (.slice A4 e.f1.length c4)) (blk_put (blk_put H6.out 0 (.int .i64 e.f0) rfl) 1 (.slice A4 e.f1.length c4) rfl) (by decide) 2 (.slice B4 e.f2.length k4))
          replace R4 := Lib.hid (Kd.R_set (Kd.R_set (Kd.R_set R4.out H6.out (by decide) 0 (.int .i64 e.f0)) (blk_put H6.out 0 (.int .i64 e.f0) rfl) (by decide) 1 (.slice A4 e.f1.length c4)) (blk_put (blk_put H6.out 0 (.int .i64 e.f0) rfl) 1 (.slice A4 e.f1.length c4) rfl) (by decide) 2 (.slice B4 e.f2.length k4))
          replace G4 := Lib.hid (Kd.R_set (Kd.R_set (Kd.R_set G4.out H6.out (by decide) 0 (.int .i64 e.f0)) (blk_put H6.out 0 (.int .i64 e.f0) rfl) (by decide) 1 (.slice A4 e.f1.length c4)) (blk_put (blk_put H6.out 0 (.int .i64 e.f0) rfl) 1 (.slice A4 e.f1.length c4) rfl) (by decide) 2 (.slice B4 e.f2.length k4))
          replace H5 := Lib.hid (blk_far (blk_far (blk_far H5.out (p := ⟨b6, 0, none⟩) HNE.out (.int .i64 e.f0)) (p := ⟨b6, 1, none⟩) HNE.out (.slice A4 e.f1.length c4)) (p := ⟨b6, 2, none⟩) HNE.out (.slice B4 e.f2.length k4))
          replace H6 := Lib.hid (blk_put (blk_put (blk_put H6.out 0 (.int .i64 e.f0) rfl) 1 (.slice A4 e.f1.length c4) rfl) 2 (.slice B4 e.f2.length k4) rfl)
          have HV6 : Hid (Below wb.heap.size wb (((V5.setCell ⟨b6, 0, none⟩ (.int .i64 e.f0)).setCell ⟨b6, 1, none⟩ (.slice A4 e.f1.length c4)).setCell ⟨b6, 2, none⟩ (.slice B4 e.f2.length k4))) := Lib.hid (((HV5.out.setCell (p := ⟨b6, 0, none⟩) gb6.out _).setCell (p := ⟨b6, 1, none⟩) gb6.out _).setCell (p := ⟨b6, 2, none⟩) gb6.out _)
          refine hK.out _ _ (HSt.out _ HV6.out) (fun hHeld => ?_)
          clear hK K hHeld HV5 x0 z0 x1 z1 x2 z2
          generalize (((V5.setCell ⟨b6, 0, none⟩ (.int .i64 e.f0)).setCell ⟨b6, 1, none⟩ (.slice A4 e.f1.length c4)).setCell ⟨b6, 2, none⟩ (.slice B4 e.f2.length k4)) = V6 at *
          refine done_ (by kernel_rfl) ?_
          go_wp2_with (fail)
          go_meet
          exact ⟨b5, b6, A3, c3, B3, k3, A4, c4, B4, k4, rfl, rfl, H5, H6, R3, G3, R4, G4, HV6⟩
    · obtain ⟨b5, hnb⟩ : ∃ nb, nb = V0.heap.size := ⟨_, rfl⟩
      refine value_ (w1 := (V0.alloc (.cells #[.int .i64 0, .slice none 0 0, .slice none 0 0] 27))) (v := .pointer (some ⟨b5, 0, none⟩)) (by rfl) rfl (by rw [hnb]; go_simp) ?_
      have hal : Hid (Below V0.heap.size V0 (V0.alloc (.cells #[.int .i64 0, .slice none 0 0, .slice none 0 0] 27))) := Lib.hid ((Below.refl _ _).alloc (Nat.le_refl _) _)
      have H5 : Hid ((V0.alloc (.cells #[.int .i64 0, .slice none 0 0, .slice none 0 0] 27)).heap[b5]? = some (.cells #[.int .i64 0, .slice none 0 0, .slice none 0 0] 27 (0, 0))) := by rw [hnb]; exact Lib.hid (blk_new _ _)
      have gb5 : Hid (wb.heap.size ≤ b5) := by rw [hnb]; exact Lib.hid HV0.out.size
      clear hnb
      generalize (V0.alloc (.cells #[.int .i64 0, .slice none 0 0, .slice none 0 0] 27)) = V1 at hal H5 ⊢
      have HV1 : Hid (Below wb.heap.size wb V1) := HV0.out.trans (hal.out.mono HV0.out.size)
      refine hK.out _ _ (HSt.out _ HV1.out) (fun hHeld => ?_)
      clear hK K hal HV0
      refine norm_ (a' := ?_) ?_ ?_
      rotate_left
      · show Act.put _ (some 5) _ = _
        go_simp
        rfl
      refine two_ (i := 1) (j := 5) (Ni := some 17) (Nj := some 6) #[true, true, true, false, true, false, false, false] #[true, false, true, false, true, true, false, false] rfl rfl rfl rfl (by kernel_rfl) (by decide) (by decide) (fun K hK => ?_) (fun K hK => ?_)
      · refine goes_ Try.func13 (by kernel_rfl) rfl #[.agg #[.int .i64 d.f0, .slice A1 d.f1.length c1, .slice B1 d.f2.length k1]] (by rfl) rfl rfl (by simp only [List.map_toArray, List.map_cons, List.map_nil]; rfl) ?_
        refine ((HCD.out V1 (HBw.out.trans (HV1.out.mono HBw.out.size)))).mono ?_
        rintro e' V2 ⟨A3, c3, B3, k3, rfl, R3, G3, hb⟩
        refine ⟨_, rfl, ?_⟩
        replace H5 := Lib.hid (blk_below H5.out hb.out)
        have HV2 : Hid (Below wb.heap.size wb V2) := HV1.out.trans (hb.out.mono HV1.out.size)
        replace R3 := Lib.hid (Kd.R_lower R3.out HV1.out.size)
        replace G3 := Lib.hid (Kd.R_lower G3.out HV1.out.size)
        refine hK.out _ _ (HSt.out _ HV2.out) (fun hHeld => ?_)
        clear hK K hb HV1
        refine norm_ (a' := ?_) ?_ ?_
        rotate_left
        · show Act.put _ (some 17) _ = _
          go_simp
          rfl
        refine two_ (i := 3) (j := 5) (Ni := some 19) (Nj := some 6) #[true, true, true, true, true, false, false, false] #[true, true, true, false, true, true, false, false] rfl rfl rfl rfl (by kernel_rfl) (by decide) (by decide) (fun K hK => ?_) (fun K hK => ?_)
        · refine goes_ Try.func13 (by kernel_rfl) rfl #[.agg #[.int .i64 e.f0, .slice A2 e.f1.length c2, .slice B2 e.f2.length k2]] (by rfl) rfl rfl (by simp only [List.map_toArray, List.map_cons, List.map_nil]; rfl) ?_
          refine ((HCE.out V2 (HBw.out.trans (HV2.out.mono HBw.out.size)))).mono ?_
          rintro e' V3 ⟨A4, c4, B4, k4, rfl, R4, G4, hb⟩
          refine ⟨_, rfl, ?_⟩
          replace R3 := Lib.hid (Kd.R_below R3.out hb.out)
          replace G3 := Lib.hid (Kd.R_below G3.out hb.out)
          replace H5 := Lib.hid (blk_below H5.out hb.out)
          have HV3 : Hid (Below wb.heap.size wb V3) := HV2.out.trans (hb.out.mono HV2.out.size)
          replace R4 := Lib.hid (Kd.R_lower R4.out HV2.out.size)
          replace G4 := Lib.hid (Kd.R_lower G4.out HV2.out.size)
          refine hK.out _ _ (HSt.out _ HV3.out) (fun hHeld => ?_)
          clear hK K hb HV2
          refine norm_ (a' := ?_) ?_ ?_
          rotate_left
          · show Act.put _ (some 19) _ = _
            go_simp
            rfl
          refine one_ (i := 5) (N := some 6) #[true, true, true, true, true, true, false, false] rfl rfl (by kernel_rfl) (by decide) (fun K hK => ?_)
          obtain ⟨b6, hnb⟩ : ∃ nb, nb = V3.heap.size := ⟨_, rfl⟩
          refine value_ (w1 := (V3.alloc (.cells #[.int .i64 0, .slice none 0 0, .slice none 0 0] 27))) (v := .pointer (some ⟨b6, 0, none⟩)) (by rfl) rfl (by rw [hnb]; go_simp) ?_
          have hal : Hid (Below V3.heap.size V3 (V3.alloc (.cells #[.int .i64 0, .slice none 0 0, .slice none 0 0] 27))) := Lib.hid ((Below.refl _ _).alloc (Nat.le_refl _) _)
          have H6 : Hid ((V3.alloc (.cells #[.int .i64 0, .slice none 0 0, .slice none 0 0] 27)).heap[b6]? = some (.cells #[.int .i64 0, .slice none 0 0, .slice none 0 0] 27 (0, 0))) := by rw [hnb]; exact Lib.hid (blk_new _ _)
          have gb6 : Hid (wb.heap.size ≤ b6) := by rw [hnb]; exact Lib.hid HV3.out.size
          have HNE : Hid (b5 ≠ b6) := Lib.hid (by have := blk_lt H5.out; omega)
          clear hnb
          generalize (V3.alloc (.cells #[.int .i64 0, .slice none 0 0, .slice none 0 0] 27)) = V4 at hal H6 ⊢
          replace R3 := Lib.hid (Kd.R_below R3.out hal.out)
          replace G3 := Lib.hid (Kd.R_below G3.out hal.out)
          replace R4 := Lib.hid (Kd.R_below R4.out hal.out)
          replace G4 := Lib.hid (Kd.R_below G4.out hal.out)
          replace H5 := Lib.hid (blk_below H5.out hal.out)
          have HV4 : Hid (Below wb.heap.size wb V4) := HV3.out.trans (hal.out.mono HV3.out.size)
          refine hK.out _ _ (HSt.out _ HV4.out) (fun hHeld => ?_)
          clear hK K hal HV3
          refine norm_ (a' := ?_) ?_ ?_
          rotate_left
          · show Act.put _ (some 6) _ = _
            go_simp
            rfl
          refine one_ (i := 6) (N := none) #[true, true, true, true, true, true, true, false] rfl rfl (by kernel_rfl) (by decide) (fun K hK => ?_)
          have x0 : V4.cell? ⟨b5, 0, none⟩ = some (.int .i64 0) := blk_at H5.out 0 rfl
          have z0 : V4.frozen? ⟨b5, 0, none⟩ = false := blk_frozen H5.out 0
          have x1 : V4.cell? ⟨b5, 1, none⟩ = some (.slice none 0 0) := blk_at H5.out 1 rfl
          have z1 : V4.frozen? ⟨b5, 1, none⟩ = false := blk_frozen H5.out 1
          have x2 : V4.cell? ⟨b5, 2, none⟩ = some (.slice none 0 0) := blk_at H5.out 2 rfl
          have z2 : V4.frozen? ⟨b5, 2, none⟩ = false := blk_frozen H5.out 2
          refine skip_ (w1 := (((V4.setCell ⟨b5, 0, none⟩ (.int .i64 d.f0)).setCell ⟨b5, 1, none⟩ (.slice A3 d.f1.length c3)).setCell ⟨b5, 2, none⟩ (.slice B3 d.f2.length k3))) (by rfl) rfl (by go_simp) ?_
          replace R3 := Lib.hid (Kd.R_set (Kd.R_set (Kd.R_set R3.out H5.out (by decide) 0 (.int .i64 d.f0)) (blk_put H5.out 0 (.int .i64 d.f0) rfl) (by decide) 1 (.slice A3 d.f1.length c3)) (blk_put (blk_put H5.out 0 (.int .i64 d.f0) rfl) 1 (.slice A3 d.f1.length c3) rfl) (by decide) 2 (.slice B3 d.f2.length k3))
          replace G3 := Lib.hid (Kd.R_set (Kd.R_set (Kd.R_set G3.out H5.out (by decide) 0 (.int .i64 d.f0)) (blk_put H5.out 0 (.int .i64 d.f0) rfl) (by decide) 1 (.slice A3 d.f1.length c3)) (blk_put (blk_put H5.out 0 (.int .i64 d.f0) rfl) 1 (.slice A3 d.f1.length c3) rfl) (by decide) 2 (.slice B3 d.f2.length k3))
          replace R4 := Lib.hid (Kd.R_set (Kd.R_set (Kd.R_set R4.out H5.out (by decide) 0 (.int .i64 d.f0)) (blk_put H5.out 0 (.int .i64 d.f0) rfl) (by decide) 1 (.slice A3 d.f1.length c3)) (blk_put (blk_put H5.out 0 (.int .i64 d.f0) rfl) 1 (.slice A3 d.f1.length c3) rfl) (by decide) 2 (.slice B3 d.f2.length k3))
          replace G4 := Lib.hid (Kd.R_set (Kd.R_set (Kd.R_set G4.out H5.out (by decide) 0 (.int .i64 d.f0)) (blk_put H5.out 0 (.int .i64 d.f0) rfl) (by decide) 1 (.slice A3 d.f1.length c3)) (blk_put (blk_put H5.out 0 (.int .i64 d.f0) rfl) 1 (.slice A3 d.f1.length c3) rfl) (by decide) 2 (.slice B3 d.f2.length k3))
          replace H6 := Lib.hid (blk_far (blk_far (blk_far H6.out (p := ⟨b5, 0, none⟩) HNE.out.symm (.int .i64 d.f0)) (p := ⟨b5, 1, none⟩) HNE.out.symm (.slice A3 d.f1.length c3)) (p := ⟨b5, 2, none⟩) HNE.out.symm (.slice B3 d.f2.length k3))
          replace H5 := Lib.hid (blk_put (blk_put (blk_put H5.out 0 (.int .i64 d.f0) rfl) 1 (.slice A3 d.f1.length c3) rfl) 2 (.slice B3 d.f2.length k3) rfl)
          have HV5 : Hid (Below wb.heap.size wb (((V4.setCell ⟨b5, 0, none⟩ (.int .i64 d.f0)).setCell ⟨b5, 1, none⟩ (.slice A3 d.f1.length c3)).setCell ⟨b5, 2, none⟩ (.slice B3 d.f2.length k3))) := Lib.hid (((HV4.out.setCell (p := ⟨b5, 0, none⟩) gb5.out _).setCell (p := ⟨b5, 1, none⟩) gb5.out _).setCell (p := ⟨b5, 2, none⟩) gb5.out _)
          refine hK.out _ _ (HSt.out _ HV5.out) (fun hHeld => ?_)
          clear hK K hHeld HV4 x0 z0 x1 z1 x2 z2
          generalize (((V4.setCell ⟨b5, 0, none⟩ (.int .i64 d.f0)).setCell ⟨b5, 1, none⟩ (.slice A3 d.f1.length c3)).setCell ⟨b5, 2, none⟩ (.slice B3 d.f2.length k3)) = V5 at *
          refine one_ (i := 7) (N := none) #[true, true, true, true, true, true, true, true] rfl rfl (by kernel_rfl) (by decide) (fun K hK => ?_)
          have x0 : V5.cell? ⟨b6, 0, none⟩ = some (.int .i64 0) := blk_at H6.out 0 rfl
          have z0 : V5.frozen? ⟨b6, 0, none⟩ = false := blk_frozen H6.out 0
          have x1 : V5.cell? ⟨b6, 1, none⟩ = some (.slice none 0 0) := blk_at H6.out 1 rfl
          have z1 : V5.frozen? ⟨b6, 1, none⟩ = false := blk_frozen H6.out 1
          have x2 : V5.cell? ⟨b6, 2, none⟩ = some (.slice none 0 0) := blk_at H6.out 2 rfl
          have z2 : V5.frozen? ⟨b6, 2, none⟩ = false := blk_frozen H6.out 2
          refine skip_ (w1 := (((V5.setCell ⟨b6, 0, none⟩ (.int .i64 e.f0)).setCell ⟨b6, 1, none⟩ (.slice A4 e.f1.length c4)).setCell ⟨b6, 2, none⟩ (.slice B4 e.f2.length k4))) (by rfl) rfl (by go_simp) ?_
          replace R3 := Lib.hid (Kd.R_set (Kd.R_set (Kd.R_set R3.out H6.out (by decide) 0 (.int .i64 e.f0)) (blk_put H6.out 0 (.int .i64 e.f0) rfl) (by decide) 1 (.slice A4 e.f1.length c4)) (blk_put (blk_put H6.out 0 (.int .i64 e.f0) rfl) 1 (.slice A4 e.f1.length c4) rfl) (by decide) 2 (.slice B4 e.f2.length k4))
          replace G3 := Lib.hid (Kd.R_set (Kd.R_set (Kd.R_set G3.out H6.out (by decide) 0 (.int .i64 e.f0)) (blk_put H6.out 0 (.int .i64 e.f0) rfl) (by decide) 1 (.slice A4 e.f1.length c4)) (blk_put (blk_put H6.out 0 (.int .i64 e.f0) rfl) 1 (.slice A4 e.f1.length c4) rfl) (by decide) 2 (.slice B4 e.f2.length k4))
          replace R4 := Lib.hid (Kd.R_set (Kd.R_set (Kd.R_set R4.out H6.out (by decide) 0 (.int .i64 e.f0)) (blk_put H6.out 0 (.int .i64 e.f0) rfl) (by decide) 1 (.slice A4 e.f1.length c4)) (blk_put (blk_put H6.out 0 (.int .i64 e.f0) rfl) 1 (.slice A4 e.f1.length c4) rfl) (by decide) 2 (.slice B4 e.f2.length k4))
          replace G4 := Lib.hid (Kd.R_set (Kd.R_set (Kd.R_set G4.out H6.out (by decide) 0 (.int .i64 e.f0)) (blk_put H6.out 0 (.int .i64 e.f0) rfl) (by decide) 1 (.slice A4 e.f1.length c4)) (blk_put (blk_put H6.out 0 (.int .i64 e.f0) rfl) 1 (.slice A4 e.f1.length c4) rfl) (by decide) 2 (.slice B4 e.f2.length k4))
          replace H5 := Lib.hid (blk_far (blk_far (blk_far H5.out (p := ⟨b6, 0, none⟩) HNE.out (.int .i64 e.f0)) (p := ⟨b6, 1, none⟩) HNE.out (.slice A4 e.f1.length c4)) (p := ⟨b6, 2, none⟩) HNE.out (.slice B4 e.f2.length k4))
          replace H6 := Lib.hid (blk_put (blk_put (blk_put H6.out 0 (.int .i64 e.f0) rfl) 1 (.slice A4 e.f1.length c4) rfl) 2 (.slice B4 e.f2.length k4) rfl)
          have HV6 : Hid (Below wb.heap.size wb (((V5.setCell ⟨b6, 0, none⟩ (.int .i64 e.f0)).setCell ⟨b6, 1, none⟩ (.slice A4 e.f1.length c4)).setCell ⟨b6, 2, none⟩ (.slice B4 e.f2.length k4))) := Lib.hid (((HV5.out.setCell (p := ⟨b6, 0, none⟩) gb6.out _).setCell (p := ⟨b6, 1, none⟩) gb6.out _).setCell (p := ⟨b6, 2, none⟩) gb6.out _)
          refine hK.out _ _ (HSt.out _ HV6.out) (fun hHeld => ?_)
          clear hK K hHeld HV5 x0 z0 x1 z1 x2 z2
          generalize (((V5.setCell ⟨b6, 0, none⟩ (.int .i64 e.f0)).setCell ⟨b6, 1, none⟩ (.slice A4 e.f1.length c4)).setCell ⟨b6, 2, none⟩ (.slice B4 e.f2.length k4)) = V6 at *
          refine done_ (by kernel_rfl) ?_
          go_wp2_with (fail)
          go_meet
          exact ⟨b5, b6, A3, c3, B3, k3, A4, c4, B4, k4, rfl, rfl, H5, H6, R3, G3, R4, G4, HV6⟩
        · obtain ⟨b6, hnb⟩ : ∃ nb, nb = V2.heap.size := ⟨_, rfl⟩
          refine value_ (w1 := (V2.alloc (.cells #[.int .i64 0, .slice none 0 0, .slice none 0 0] 27))) (v := .pointer (some ⟨b6, 0, none⟩)) (by rfl) rfl (by rw [hnb]; go_simp) ?_
          have hal : Hid (Below V2.heap.size V2 (V2.alloc (.cells #[.int .i64 0, .slice none 0 0, .slice none 0 0] 27))) := Lib.hid ((Below.refl _ _).alloc (Nat.le_refl _) _)
          have H6 : Hid ((V2.alloc (.cells #[.int .i64 0, .slice none 0 0, .slice none 0 0] 27)).heap[b6]? = some (.cells #[.int .i64 0, .slice none 0 0, .slice none 0 0] 27 (0, 0))) := by rw [hnb]; exact Lib.hid (blk_new _ _)
          have gb6 : Hid (wb.heap.size ≤ b6) := by rw [hnb]; exact Lib.hid HV2.out.size
          have HNE : Hid (b5 ≠ b6) := Lib.hid (by have := blk_lt H5.out; omega)
          clear hnb
          generalize (V2.alloc (.cells #[.int .i64 0, .slice none 0 0, .slice none 0 0] 27)) = V3 at hal H6 ⊢
          replace R3 := Lib.hid (Kd.R_below R3.out hal.out)
          replace G3 := Lib.hid (Kd.R_below G3.out hal.out)
          replace H5 := Lib.hid (blk_below H5.out hal.out)
          have HV3 : Hid (Below wb.heap.size wb V3) := HV2.out.trans (hal.out.mono HV2.out.size)
          refine hK.out _ _ (HSt.out _ HV3.out) (fun hHeld => ?_)
          clear hK K hal HV2
          refine norm_ (a' := ?_) ?_ ?_
          rotate_left
          · show Act.put _ (some 6) _ = _
            go_simp
            rfl
          refine one_ (i := 3) (N := some 19) #[true, true, true, true, true, true, false, false] rfl rfl (by kernel_rfl) (by decide) (fun K hK => ?_)
          refine goes_ Try.func13 (by kernel_rfl) rfl #[.agg #[.int .i64 e.f0, .slice A2 e.f1.length c2, .slice B2 e.f2.length k2]] (by rfl) rfl rfl (by simp only [List.map_toArray, List.map_cons, List.map_nil]; rfl) ?_
          refine ((HCE.out V3 (HBw.out.trans (HV3.out.mono HBw.out.size)))).mono ?_
          rintro e' V4 ⟨A4, c4, B4, k4, rfl, R4, G4, hb⟩
          refine ⟨_, rfl, ?_⟩
          replace R3 := Lib.hid (Kd.R_below R3.out hb.out)
          replace G3 := Lib.hid (Kd.R_below G3.out hb.out)
          replace H5 := Lib.hid (blk_below H5.out hb.out)
          replace H6 := Lib.hid (blk_below H6.out hb.out)
          have HV4 : Hid (Below wb.heap.size wb V4) := HV3.out.trans (hb.out.mono HV3.out.size)
          replace R4 := Lib.hid (Kd.R_lower R4.out HV3.out.size)
          replace G4 := Lib.hid (Kd.R_lower G4.out HV3.out.size)
          refine hK.out _ _ (HSt.out _ HV4.out) (fun hHeld => ?_)
          clear hK K hb HV3
          refine norm_ (a' := ?_) ?_ ?_
          rotate_left
          · show Act.put _ (some 19) _ = _
            go_simp
            rfl
          refine one_ (i := 6) (N := none) #[true, true, true, true, true, true, true, false] rfl rfl (by kernel_rfl) (by decide) (fun K hK => ?_)
          have x0 : V4.cell? ⟨b5, 0, none⟩ = some (.int .i64 0) := blk_at H5.out 0 rfl
          have z0 : V4.frozen? ⟨b5, 0, none⟩ = false := blk_frozen H5.out 0
          have x1 : V4.cell? ⟨b5, 1, none⟩ = some (.slice none 0 0) := blk_at H5.out 1 rfl
          have z1 : V4.frozen? ⟨b5, 1, none⟩ = false := blk_frozen H5.out 1
          have x2 : V4.cell? ⟨b5, 2, none⟩ = some (.slice none 0 0) := blk_at H5.out 2 rfl
          have z2 : V4.frozen? ⟨b5, 2, none⟩ = false := blk_frozen H5.out 2
          refine skip_ (w1 := (((V4.setCell ⟨b5, 0, none⟩ (.int .i64 d.f0)).setCell ⟨b5, 1, none⟩ (.slice A3 d.f1.length c3)).setCell ⟨b5, 2, none⟩ (.slice B3 d.f2.length k3))) (by rfl) rfl (by go_simp) ?_
          replace R3 := Lib.hid (Kd.R_set (Kd.R_set (Kd.R_set R3.out H5.out (by decide) 0 (.int .i64 d.f0)) (blk_put H5.out 0 (.int .i64 d.f0) rfl) (by decide) 1 (.slice A3 d.f1.length c3)) (blk_put (blk_put H5.out 0 (.int .i64 d.f0) rfl) 1 (.slice A3 d.f1.length c3) rfl) (by decide) 2 (.slice B3 d.f2.length k3))
          replace G3 := Lib.hid (Kd.R_set (Kd.R_set (Kd.R_set G3.out H5.out (by decide) 0 (.int .i64 d.f0)) (blk_put H5.out 0 (.int .i64 d.f0) rfl) (by decide) 1 (.slice A3 d.f1.length c3)) (blk_put (blk_put H5.out 0 (.int .i64 d.f0) rfl) 1 (.slice A3 d.f1.length c3) rfl) (by decide) 2 (.slice B3 d.f2.length k3))
          replace R4 := Lib.hid (Kd.R_set (Kd.R_set (Kd.R_set R4.out H5.out (by decide) 0 (.int .i64 d.f0)) (blk_put H5.out 0 (.int .i64 d.f0) rfl) (by decide) 1 (.slice A3 d.f1.length c3)) (blk_put (blk_put H5.out 0 (.int .i64 d.f0) rfl) 1 (.slice A3 d.f1.length c3) rfl) (by decide) 2 (.slice B3 d.f2.length k3))
          replace G4 := Lib.hid (Kd.R_set (Kd.R_set (Kd.R_set G4.out H5.out (by decide) 0 (.int .i64 d.f0)) (blk_put H5.out 0 (.int .i64 d.f0) rfl) (by decide) 1 (.slice A3 d.f1.length c3)) (blk_put (blk_put H5.out 0 (.int .i64 d.f0) rfl) 1 (.slice A3 d.f1.length c3) rfl) (by decide) 2 (.slice B3 d.f2.length k3))
          replace H6 := Lib.hid (blk_far (blk_far (blk_far H6.out (p := ⟨b5, 0, none⟩) HNE.out.symm (.int .i64 d.f0)) (p := ⟨b5, 1, none⟩) HNE.out.symm (.slice A3 d.f1.length c3)) (p := ⟨b5, 2, none⟩) HNE.out.symm (.slice B3 d.f2.length k3))
          replace H5 := Lib.hid (blk_put (blk_put (blk_put H5.out 0 (.int .i64 d.f0) rfl) 1 (.slice A3 d.f1.length c3) rfl) 2 (.slice B3 d.f2.length k3) rfl)
          have HV5 : Hid (Below wb.heap.size wb (((V4.setCell ⟨b5, 0, none⟩ (.int .i64 d.f0)).setCell ⟨b5, 1, none⟩ (.slice A3 d.f1.length c3)).setCell ⟨b5, 2, none⟩ (.slice B3 d.f2.length k3))) := Lib.hid (((HV4.out.setCell (p := ⟨b5, 0, none⟩) gb5.out _).setCell (p := ⟨b5, 1, none⟩) gb5.out _).setCell (p := ⟨b5, 2, none⟩) gb5.out _)
          refine hK.out _ _ (HSt.out _ HV5.out) (fun hHeld => ?_)
          clear hK K hHeld HV4 x0 z0 x1 z1 x2 z2
          generalize (((V4.setCell ⟨b5, 0, none⟩ (.int .i64 d.f0)).setCell ⟨b5, 1, none⟩ (.slice A3 d.f1.length c3)).setCell ⟨b5, 2, none⟩ (.slice B3 d.f2.length k3)) = V5 at *
          refine one_ (i := 7) (N := none) #[true, true, true, true, true, true, true, true] rfl rfl (by kernel_rfl) (by decide) (fun K hK => ?_)
          have x0 : V5.cell? ⟨b6, 0, none⟩ = some (.int .i64 0) := blk_at H6.out 0 rfl
          have z0 : V5.frozen? ⟨b6, 0, none⟩ = false := blk_frozen H6.out 0
          have x1 : V5.cell? ⟨b6, 1, none⟩ = some (.slice none 0 0) := blk_at H6.out 1 rfl
          have z1 : V5.frozen? ⟨b6, 1, none⟩ = false := blk_frozen H6.out 1
          have x2 : V5.cell? ⟨b6, 2, none⟩ = some (.slice none 0 0) := blk_at H6.out 2 rfl
          have z2 : V5.frozen? ⟨b6, 2, none⟩ = false := blk_frozen H6.out 2
          refine skip_ (w1 := (((V5.setCell ⟨b6, 0, none⟩ (.int .i64 e.f0)).setCell ⟨b6, 1, none⟩ (.slice A4 e.f1.length c4)).setCell ⟨b6, 2, none⟩ (.slice B4 e.f2.length k4))) (by rfl) rfl (by go_simp) ?_
          replace R3 := Lib.hid (Kd.R_set (Kd.R_set (Kd.R_set R3.out H6.out (by decide) 0 (.int .i64 e.f0)) (blk_put H6.out 0 (.int .i64 e.f0) rfl) (by decide) 1 (.slice A4 e.f1.length c4)) (blk_put (blk_put H6.out 0 (.int .i64 e.f0) rfl) 1 (.slice A4 e.f1.length c4) rfl) (by decide) 2 (.slice B4 e.f2.length k4))
          replace G3 := Lib.hid (Kd.R_set (Kd.R_set (Kd.R_set G3.out H6.out (by decide) 0 (.int .i64 e.f0)) (blk_put H6.out 0 (.int .i64 e.f0) rfl) (by decide) 1 (.slice A4 e.f1.length c4)) (blk_put (blk_put H6.out 0 (.int .i64 e.f0) rfl) 1 (.slice A4 e.f1.length c4) rfl) (by decide) 2 (.slice B4 e.f2.length k4))
          replace R4 := Lib.hid (Kd.R_set (Kd.R_set (Kd.R_set R4.out H6.out (by decide) 0 (.int .i64 e.f0)) (blk_put H6.out 0 (.int .i64 e.f0) rfl) (by decide) 1 (.slice A4 e.f1.length c4)) (blk_put (blk_put H6.out 0 (.int .i64 e.f0) rfl) 1 (.slice A4 e.f1.length c4) rfl) (by decide) 2 (.slice B4 e.f2.length k4))
          replace G4 := Lib.hid (Kd.R_set (Kd.R_set (Kd.R_set G4.out H6.out (by decide) 0 (.int .i64 e.f0)) (blk_put H6.out 0 (.int .i64 e.f0) rfl) (by decide) 1 (.slice A4 e.f1.length c4)) (blk_put (blk_put H6.out 0 (.int .i64 e.f0) rfl) 1 (.slice A4 e.f1.length c4) rfl) (by decide) 2 (.slice B4 e.f2.length k4))
          replace H5 := Lib.hid (blk_far (blk_far (blk_far H5.out (p := ⟨b6, 0, none⟩) HNE.out (.int .i64 e.f0)) (p := ⟨b6, 1, none⟩) HNE.out (.slice A4 e.f1.length c4)) (p := ⟨b6, 2, none⟩) HNE.out (.slice B4 e.f2.length k4))
          replace H6 := Lib.hid (blk_put (blk_put (blk_put H6.out 0 (.int .i64 e.f0) rfl) 1 (.slice A4 e.f1.length c4) rfl) 2 (.slice B4 e.f2.length k4) rfl)
          have HV6 : Hid (Below wb.heap.size wb (((V5.setCell ⟨b6, 0, none⟩ (.int .i64 e.f0)).setCell ⟨b6, 1, none⟩ (.slice A4 e.f1.length c4)).setCell ⟨b6, 2, none⟩ (.slice B4 e.f2.length k4))) := Lib.hid (((HV5.out.setCell (p := ⟨b6, 0, none⟩) gb6.out _).setCell (p := ⟨b6, 1, none⟩) gb6.out _).setCell (p := ⟨b6, 2, none⟩) gb6.out _)
          refine hK.out _ _ (HSt.out _ HV6.out) (fun hHeld => ?_)
          clear hK K hHeld HV5 x0 z0 x1 z1 x2 z2
          generalize (((V5.setCell ⟨b6, 0, none⟩ (.int .i64 e.f0)).setCell ⟨b6, 1, none⟩ (.slice A4 e.f1.length c4)).setCell ⟨b6, 2, none⟩ (.slice B4 e.f2.length k4)) = V6 at *
          refine done_ (by kernel_rfl) ?_
          go_wp2_with (fail)
          go_meet
          exact ⟨b5, b6, A3, c3, B3, k3, A4, c4, B4, k4, rfl, rfl, H5, H6, R3, G3, R4, G4, HV6⟩
      · obtain ⟨b6, hnb⟩ : ∃ nb, nb = V1.heap.size := ⟨_, rfl⟩
        refine value_ (w1 := (V1.alloc (.cells #[.int .i64 0, .slice none 0 0, .slice none 0 0] 27))) (v := .pointer (some ⟨b6, 0, none⟩)) (by rfl) rfl (by rw [hnb]; go_simp) ?_
        have hal : Hid (Below V1.heap.size V1 (V1.alloc (.cells #[.int .i64 0, .slice none 0 0, .slice none 0 0] 27))) := Lib.hid ((Below.refl _ _).alloc (Nat.le_refl _) _)
        have H6 : Hid ((V1.alloc (.cells #[.int .i64 0, .slice none 0 0, .slice none 0 0] 27)).heap[b6]? = some (.cells #[.int .i64 0, .slice none 0 0, .slice none 0 0] 27 (0, 0))) := by rw [hnb]; exact Lib.hid (blk_new _ _)
        have gb6 : Hid (wb.heap.size ≤ b6) := by rw [hnb]; exact Lib.hid HV1.out.size
        have HNE : Hid (b5 ≠ b6) := Lib.hid (by have := blk_lt H5.out; omega)
        clear hnb
        generalize (V1.alloc (.cells #[.int .i64 0, .slice none 0 0, .slice none 0 0] 27)) = V2 at hal H6 ⊢
        replace H5 := Lib.hid (blk_below H5.out hal.out)
        have HV2 : Hid (Below wb.heap.size wb V2) := HV1.out.trans (hal.out.mono HV1.out.size)
        refine hK.out _ _ (HSt.out _ HV2.out) (fun hHeld => ?_)
        clear hK K hal HV1
        refine norm_ (a' := ?_) ?_ ?_
        rotate_left
        · show Act.put _ (some 6) _ = _
          go_simp
          rfl
        refine one_ (i := 1) (N := some 17) #[true, true, true, false, true, true, false, false] rfl rfl (by kernel_rfl) (by decide) (fun K hK => ?_)
        refine goes_ Try.func13 (by kernel_rfl) rfl #[.agg #[.int .i64 d.f0, .slice A1 d.f1.length c1, .slice B1 d.f2.length k1]] (by rfl) rfl rfl (by simp only [List.map_toArray, List.map_cons, List.map_nil]; rfl) ?_
        refine ((HCD.out V2 (HBw.out.trans (HV2.out.mono HBw.out.size)))).mono ?_
        rintro e' V3 ⟨A3, c3, B3, k3, rfl, R3, G3, hb⟩
        refine ⟨_, rfl, ?_⟩
        replace H5 := Lib.hid (blk_below H5.out hb.out)
        replace H6 := Lib.hid (blk_below H6.out hb.out)
        have HV3 : Hid (Below wb.heap.size wb V3) := HV2.out.trans (hb.out.mono HV2.out.size)
        replace R3 := Lib.hid (Kd.R_lower R3.out HV2.out.size)
        replace G3 := Lib.hid (Kd.R_lower G3.out HV2.out.size)
        refine hK.out _ _ (HSt.out _ HV3.out) (fun hHeld => ?_)
        clear hK K hb HV2
        refine norm_ (a' := ?_) ?_ ?_
        rotate_left
        · show Act.put _ (some 17) _ = _
          go_simp
          rfl
        refine one_ (i := 3) (N := some 19) #[true, true, true, true, true, true, false, false] rfl rfl (by kernel_rfl) (by decide) (fun K hK => ?_)
        refine goes_ Try.func13 (by kernel_rfl) rfl #[.agg #[.int .i64 e.f0, .slice A2 e.f1.length c2, .slice B2 e.f2.length k2]] (by rfl) rfl rfl (by simp only [List.map_toArray, List.map_cons, List.map_nil]; rfl) ?_
        refine ((HCE.out V3 (HBw.out.trans (HV3.out.mono HBw.out.size)))).mono ?_
        rintro e' V4 ⟨A4, c4, B4, k4, rfl, R4, G4, hb⟩
        refine ⟨_, rfl, ?_⟩
        replace R3 := Lib.hid (Kd.R_below R3.out hb.out)
        replace G3 := Lib.hid (Kd.R_below G3.out hb.out)
        replace H5 := Lib.hid (blk_below H5.out hb.out)
        replace H6 := Lib.hid (blk_below H6.out hb.out)
        have HV4 : Hid (Below wb.heap.size wb V4) := HV3.out.trans (hb.out.mono HV3.out.size)
        replace R4 := Lib.hid (Kd.R_lower R4.out HV3.out.size)
        replace G4 := Lib.hid (Kd.R_lower G4.out HV3.out.size)
        refine hK.out _ _ (HSt.out _ HV4.out) (fun hHeld => ?_)
        clear hK K hb HV3
        refine norm_ (a' := ?_) ?_ ?_
        rotate_left
        · show Act.put _ (some 19) _ = _
          go_simp
          rfl
        refine one_ (i := 6) (N := none) #[true, true, true, true, true, true, true, false] rfl rfl (by kernel_rfl) (by decide) (fun K hK => ?_)
        have x0 : V4.cell? ⟨b5, 0, none⟩ = some (.int .i64 0) := blk_at H5.out 0 rfl
        have z0 : V4.frozen? ⟨b5, 0, none⟩ = false := blk_frozen H5.out 0
        have x1 : V4.cell? ⟨b5, 1, none⟩ = some (.slice none 0 0) := blk_at H5.out 1 rfl
        have z1 : V4.frozen? ⟨b5, 1, none⟩ = false := blk_frozen H5.out 1
        have x2 : V4.cell? ⟨b5, 2, none⟩ = some (.slice none 0 0) := blk_at H5.out 2 rfl
        have z2 : V4.frozen? ⟨b5, 2, none⟩ = false := blk_frozen H5.out 2
        refine skip_ (w1 := (((V4.setCell ⟨b5, 0, none⟩ (.int .i64 d.f0)).setCell ⟨b5, 1, none⟩ (.slice A3 d.f1.length c3)).setCell ⟨b5, 2, none⟩ (.slice B3 d.f2.length k3))) (by rfl) rfl (by go_simp) ?_
        replace R3 := Lib.hid (Kd.R_set (Kd.R_set (Kd.R_set R3.out H5.out (by decide) 0 (.int .i64 d.f0)) (blk_put H5.out 0 (.int .i64 d.f0) rfl) (by decide) 1 (.slice A3 d.f1.length c3)) (blk_put (blk_put H5.out 0 (.int .i64 d.f0) rfl) 1 (.slice A3 d.f1.length c3) rfl) (by decide) 2 (.slice B3 d.f2.length k3))
        replace G3 := Lib.hid (Kd.R_set (Kd.R_set (Kd.R_set G3.out H5.out (by decide) 0 (.int .i64 d.f0)) (blk_put H5.out 0 (.int .i64 d.f0) rfl) (by decide) 1 (.slice A3 d.f1.length c3)) (blk_put (blk_put H5.out 0 (.int .i64 d.f0) rfl) 1 (.slice A3 d.f1.length c3) rfl) (by decide) 2 (.slice B3 d.f2.length k3))
        replace R4 := Lib.hid (Kd.R_set (Kd.R_set (Kd.R_set R4.out H5.out (by decide) 0 (.int .i64 d.f0)) (blk_put H5.out 0 (.int .i64 d.f0) rfl) (by decide) 1 (.slice A3 d.f1.length c3)) (blk_put (blk_put H5.out 0 (.int .i64 d.f0) rfl) 1 (.slice A3 d.f1.length c3) rfl) (by decide) 2 (.slice B3 d.f2.length k3))
        replace G4 := Lib.hid (Kd.R_set (Kd.R_set (Kd.R_set G4.out H5.out (by decide) 0 (.int .i64 d.f0)) (blk_put H5.out 0 (.int .i64 d.f0) rfl) (by decide) 1 (.slice A3 d.f1.length c3)) (blk_put (blk_put H5.out 0 (.int .i64 d.f0) rfl) 1 (.slice A3 d.f1.length c3) rfl) (by decide) 2 (.slice B3 d.f2.length k3))
        replace H6 := Lib.hid (blk_far (blk_far (blk_far H6.out (p := ⟨b5, 0, none⟩) HNE.out.symm (.int .i64 d.f0)) (p := ⟨b5, 1, none⟩) HNE.out.symm (.slice A3 d.f1.length c3)) (p := ⟨b5, 2, none⟩) HNE.out.symm (.slice B3 d.f2.length k3))
        replace H5 := Lib.hid (blk_put (blk_put (blk_put H5.out 0 (.int .i64 d.f0) rfl) 1 (.slice A3 d.f1.length c3) rfl) 2 (.slice B3 d.f2.length k3) rfl)
        have HV5 : Hid (Below wb.heap.size wb (((V4.setCell ⟨b5, 0, none⟩ (.int .i64 d.f0)).setCell ⟨b5, 1, none⟩ (.slice A3 d.f1.length c3)).setCell ⟨b5, 2, none⟩ (.slice B3 d.f2.length k3))) := Lib.hid (((HV4.out.setCell (p := ⟨b5, 0, none⟩) gb5.out _).setCell (p := ⟨b5, 1, none⟩) gb5.out _).setCell (p := ⟨b5, 2, none⟩) gb5.out _)
        refine hK.out _ _ (HSt.out _ HV5.out) (fun hHeld => ?_)
        clear hK K hHeld HV4 x0 z0 x1 z1 x2 z2
        generalize (((V4.setCell ⟨b5, 0, none⟩ (.int .i64 d.f0)).setCell ⟨b5, 1, none⟩ (.slice A3 d.f1.length c3)).setCell ⟨b5, 2, none⟩ (.slice B3 d.f2.length k3)) = V5 at *
        refine one_ (i := 7) (N := none) #[true, true, true, true, true, true, true, true] rfl rfl (by kernel_rfl) (by decide) (fun K hK => ?_)
        have x0 : V5.cell? ⟨b6, 0, none⟩ = some (.int .i64 0) := blk_at H6.out 0 rfl
        have z0 : V5.frozen? ⟨b6, 0, none⟩ = false := blk_frozen H6.out 0
        have x1 : V5.cell? ⟨b6, 1, none⟩ = some (.slice none 0 0) := blk_at H6.out 1 rfl
        have z1 : V5.frozen? ⟨b6, 1, none⟩ = false := blk_frozen H6.out 1
        have x2 : V5.cell? ⟨b6, 2, none⟩ = some (.slice none 0 0) := blk_at H6.out 2 rfl
        have z2 : V5.frozen? ⟨b6, 2, none⟩ = false := blk_frozen H6.out 2
        refine skip_ (w1 := (((V5.setCell ⟨b6, 0, none⟩ (.int .i64 e.f0)).setCell ⟨b6, 1, none⟩ (.slice A4 e.f1.length c4)).setCell ⟨b6, 2, none⟩ (.slice B4 e.f2.length k4))) (by rfl) rfl (by go_simp) ?_
        replace R3 := Lib.hid (Kd.R_set (Kd.R_set (Kd.R_set R3.out H6.out (by decide) 0 (.int .i64 e.f0)) (blk_put H6.out 0 (.int .i64 e.f0) rfl) (by decide) 1 (.slice A4 e.f1.length c4)) (blk_put (blk_put H6.out 0 (.int .i64 e.f0) rfl) 1 (.slice A4 e.f1.length c4) rfl) (by decide) 2 (.slice B4 e.f2.length k4))
        replace G3 := Lib.hid (Kd.R_set (Kd.R_set (Kd.R_set G3.out H6.out (by decide) 0 (.int .i64 e.f0)) (blk_put H6.out 0 (.int .i64 e.f0) rfl) (by decide) 1 (.slice A4 e.f1.length c4)) (blk_put (blk_put H6.out 0 (.int .i64 e.f0) rfl) 1 (.slice A4 e.f1.length c4) rfl) (by decide) 2 (.slice B4 e.f2.length k4))
        replace R4 := Lib.hid (Kd.R_set (Kd.R_set (Kd.R_set R4.out H6.out (by decide) 0 (.int .i64 e.f0)) (blk_put H6.out 0 (.int .i64 e.f0) rfl) (by decide) 1 (.slice A4 e.f1.length c4)) (blk_put (blk_put H6.out 0 (.int .i64 e.f0) rfl) 1 (.slice A4 e.f1.length c4) rfl) (by decide) 2 (.slice B4 e.f2.length k4))
        replace G4 := Lib.hid (Kd.R_set (Kd.R_set (Kd.R_set G4.out H6.out (by decide) 0 (.int .i64 e.f0)) (blk_put H6.out 0 (.int .i64 e.f0) rfl) (by decide) 1 (.slice A4 e.f1.length c4)) (blk_put (blk_put H6.out 0 (.int .i64 e.f0) rfl) 1 (.slice A4 e.f1.length c4) rfl) (by decide) 2 (.slice B4 e.f2.length k4))
        replace H5 := Lib.hid (blk_far (blk_far (blk_far H5.out (p := ⟨b6, 0, none⟩) HNE.out (.int .i64 e.f0)) (p := ⟨b6, 1, none⟩) HNE.out (.slice A4 e.f1.length c4)) (p := ⟨b6, 2, none⟩) HNE.out (.slice B4 e.f2.length k4))
        replace H6 := Lib.hid (blk_put (blk_put (blk_put H6.out 0 (.int .i64 e.f0) rfl) 1 (.slice A4 e.f1.length c4) rfl) 2 (.slice B4 e.f2.length k4) rfl)
        have HV6 : Hid (Below wb.heap.size wb (((V5.setCell ⟨b6, 0, none⟩ (.int .i64 e.f0)).setCell ⟨b6, 1, none⟩ (.slice A4 e.f1.length c4)).setCell ⟨b6, 2, none⟩ (.slice B4 e.f2.length k4))) := Lib.hid (((HV5.out.setCell (p := ⟨b6, 0, none⟩) gb6.out _).setCell (p := ⟨b6, 1, none⟩) gb6.out _).setCell (p := ⟨b6, 2, none⟩) gb6.out _)
        refine hK.out _ _ (HSt.out _ HV6.out) (fun hHeld => ?_)
        clear hK K hHeld HV5 x0 z0 x1 z1 x2 z2
        generalize (((V5.setCell ⟨b6, 0, none⟩ (.int .i64 e.f0)).setCell ⟨b6, 1, none⟩ (.slice A4 e.f1.length c4)).setCell ⟨b6, 2, none⟩ (.slice B4 e.f2.length k4)) = V6 at *
        refine done_ (by kernel_rfl) ?_
        go_wp2_with (fail)
        go_meet
        exact ⟨b5, b6, A3, c3, B3, k3, A4, c4, B4, k4, rfl, rfl, H5, H6, R3, G3, R4, G4, HV6⟩
    · obtain ⟨b6, hnb⟩ : ∃ nb, nb = V0.heap.size := ⟨_, rfl⟩
      refine value_ (w1 := (V0.alloc (.cells #[.int .i64 0, .slice none 0 0, .slice none 0 0] 27))) (v := .pointer (some ⟨b6, 0, none⟩)) (by rfl) rfl (by rw [hnb]; go_simp) ?_
      have hal : Hid (Below V0.heap.size V0 (V0.alloc (.cells #[.int .i64 0, .slice none 0 0, .slice none 0 0] 27))) := Lib.hid ((Below.refl _ _).alloc (Nat.le_refl _) _)
      have H6 : Hid ((V0.alloc (.cells #[.int .i64 0, .slice none 0 0, .slice none 0 0] 27)).heap[b6]? = some (.cells #[.int .i64 0, .slice none 0 0, .slice none 0 0] 27 (0, 0))) := by rw [hnb]; exact Lib.hid (blk_new _ _)
      have gb6 : Hid (wb.heap.size ≤ b6) := by rw [hnb]; exact Lib.hid HV0.out.size
      clear hnb
      generalize (V0.alloc (.cells #[.int .i64 0, .slice none 0 0, .slice none 0 0] 27)) = V1 at hal H6 ⊢
      have HV1 : Hid (Below wb.heap.size wb V1) := HV0.out.trans (hal.out.mono HV0.out.size)
      refine hK.out _ _ (HSt.out _ HV1.out) (fun hHeld => ?_)
      clear hK K hal HV0
      refine norm_ (a' := ?_) ?_ ?_
      rotate_left
      · show Act.put _ (some 6) _ = _
        go_simp
        rfl
      refine two_ (i := 1) (j := 4) (Ni := some 17) (Nj := some 5) #[true, true, true, false, false, true, false, false] #[true, false, true, false, true, true, false, false] rfl rfl rfl rfl (by kernel_rfl) (by decide) (by decide) (fun K hK => ?_) (fun K hK => ?_)
      · refine goes_ Try.func13 (by kernel_rfl) rfl #[.agg #[.int .i64 d.f0, .slice A1 d.f1.length c1, .slice B1 d.f2.length k1]] (by rfl) rfl rfl (by simp only [List.map_toArray, List.map_cons, List.map_nil]; rfl) ?_
        refine ((HCD.out V1 (HBw.out.trans (HV1.out.mono HBw.out.size)))).mono ?_
        rintro e' V2 ⟨A3, c3, B3, k3, rfl, R3, G3, hb⟩
        refine ⟨_, rfl, ?_⟩
        replace H6 := Lib.hid (blk_below H6.out hb.out)
        have HV2 : Hid (Below wb.heap.size wb V2) := HV1.out.trans (hb.out.mono HV1.out.size)
        replace R3 := Lib.hid (Kd.R_lower R3.out HV1.out.size)
        replace G3 := Lib.hid (Kd.R_lower G3.out HV1.out.size)
        refine hK.out _ _ (HSt.out _ HV2.out) (fun hHeld => ?_)
        clear hK K hb HV1
        refine norm_ (a' := ?_) ?_ ?_
        rotate_left
        · show Act.put _ (some 17) _ = _
          go_simp
          rfl
        refine two_ (i := 3) (j := 4) (Ni := some 19) (Nj := some 5) #[true, true, true, true, false, true, false, false] #[true, true, true, false, true, true, false, false] rfl rfl rfl rfl (by kernel_rfl) (by decide) (by decide) (fun K hK => ?_) (fun K hK => ?_)
        · refine goes_ Try.func13 (by kernel_rfl) rfl #[.agg #[.int .i64 e.f0, .slice A2 e.f1.length c2, .slice B2 e.f2.length k2]] (by rfl) rfl rfl (by simp only [List.map_toArray, List.map_cons, List.map_nil]; rfl) ?_
          refine ((HCE.out V2 (HBw.out.trans (HV2.out.mono HBw.out.size)))).mono ?_
          rintro e' V3 ⟨A4, c4, B4, k4, rfl, R4, G4, hb⟩
          refine ⟨_, rfl, ?_⟩
          replace R3 := Lib.hid (Kd.R_below R3.out hb.out)
          replace G3 := Lib.hid (Kd.R_below G3.out hb.out)
          replace H6 := Lib.hid (blk_below H6.out hb.out)
          have HV3 : Hid (Below wb.heap.size wb V3) := HV2.out.trans (hb.out.mono HV2.out.size)
          replace R4 := Lib.hid (Kd.R_lower R4.out HV2.out.size)
          replace G4 := Lib.hid (Kd.R_lower G4.out HV2.out.size)
          refine hK.out _ _ (HSt.out _ HV3.out) (fun hHeld => ?_)
          clear hK K hb HV2
          refine norm_ (a' := ?_) ?_ ?_
          rotate_left
          · show Act.put _ (some 19) _ = _
            go_simp
            rfl
          refine one_ (i := 4) (N := some 5) #[true, true, true, true, true, true, false, false] rfl rfl (by kernel_rfl) (by decide) (fun K hK => ?_)
          obtain ⟨b5, hnb⟩ : ∃ nb, nb = V3.heap.size := ⟨_, rfl⟩
          refine value_ (w1 := (V3.alloc (.cells #[.int .i64 0, .slice none 0 0, .slice none 0 0] 27))) (v := .pointer (some ⟨b5, 0, none⟩)) (by rfl) rfl (by rw [hnb]; go_simp) ?_
          have hal : Hid (Below V3.heap.size V3 (V3.alloc (.cells #[.int .i64 0, .slice none 0 0, .slice none 0 0] 27))) := Lib.hid ((Below.refl _ _).alloc (Nat.le_refl _) _)
          have H5 : Hid ((V3.alloc (.cells #[.int .i64 0, .slice none 0 0, .slice none 0 0] 27)).heap[b5]? = some (.cells #[.int .i64 0, .slice none 0 0, .slice none 0 0] 27 (0, 0))) := by rw [hnb]; exact Lib.hid (blk_new _ _)
          have gb5 : Hid (wb.heap.size ≤ b5) := by rw [hnb]; exact Lib.hid HV3.out.size
          have HNE : Hid (b5 ≠ b6) := Lib.hid (by have := blk_lt H6.out; omega)
          clear hnb
          generalize (V3.alloc (.cells #[.int .i64 0, .slice none 0 0, .slice none 0 0] 27)) = V4 at hal H5 ⊢
          replace R3 := Lib.hid (Kd.R_below R3.out hal.out)
          replace G3 := Lib.hid (Kd.R_below G3.out hal.out)
          replace R4 := Lib.hid (Kd.R_below R4.out hal.out)
          replace G4 := Lib.hid (Kd.R_below G4.out hal.out)
          replace H6 := Lib.hid (blk_below H6.out hal.out)
          have HV4 : Hid (Below wb.heap.size wb V4) := HV3.out.trans (hal.out.mono HV3.out.size)
          refine hK.out _ _ (HSt.out _ HV4.out) (fun hHeld => ?_)
          clear hK K hal HV3
          refine norm_ (a' := ?_) ?_ ?_
          rotate_left
          · show Act.put _ (some 5) _ = _
            go_simp
            rfl
          refine one_ (i := 6) (N := none) #[true, true, true, true, true, true, true, false] rfl rfl (by kernel_rfl) (by decide) (fun K hK => ?_)
          have x0 : V4.cell? ⟨b5, 0, none⟩ = some (.int .i64 0) := blk_at H5.out 0 rfl
          have z0 : V4.frozen? ⟨b5, 0, none⟩ = false := blk_frozen H5.out 0
          have x1 : V4.cell? ⟨b5, 1, none⟩ = some (.slice none 0 0) := blk_at H5.out 1 rfl
          have z1 : V4.frozen? ⟨b5, 1, none⟩ = false := blk_frozen H5.out 1
          have x2 : V4.cell? ⟨b5, 2, none⟩ = some (.slice none 0 0) := blk_at H5.out 2 rfl
          have z2 : V4.frozen? ⟨b5, 2, none⟩ = false := blk_frozen H5.out 2
          refine skip_ (w1 := (((V4.setCell ⟨b5, 0, none⟩ (.int .i64 d.f0)).setCell ⟨b5, 1, none⟩ (.slice A3 d.f1.length c3)).setCell ⟨b5, 2, none⟩ (.slice B3 d.f2.length k3))) (by rfl) rfl (by go_simp) ?_
          replace R3 := Lib.hid (Kd.R_set (Kd.R_set (Kd.R_set R3.out H5.out (by decide) 0 (.int .i64 d.f0)) (blk_put H5.out 0 (.int .i64 d.f0) rfl) (by decide) 1 (.slice A3 d.f1.length c3)) (blk_put (blk_put H5.out 0 (.int .i64 d.f0) rfl) 1 (.slice A3 d.f1.length c3) rfl) (by decide) 2 (.slice B3 d.f2.length k3))
          replace G3 := Lib.hid (Kd.R_set (Kd.R_set (Kd.R_set G3.out H5.out (by decide) 0 (.int .i64 d.f0)) (blk_put H5.out 0 (.int .i64 d.f0) rfl) (by decide) 1 (.slice A3 d.f1.length c3)) (blk_put (blk_put H5.out 0 (.int .i64 d.f0) rfl) 1 (.slice A3 d.f1.length c3) rfl) (by decide) 2 (.slice B3 d.f2.length k3))
          replace R4 := Lib.hid (Kd.R_set (Kd.R_set (Kd.R_set R4.out H5.out (by decide) 0 (.int .i64 d.f0)) (blk_put H5.out 0 (.int .i64 d.f0) rfl) (by decide) 1 (.slice A3 d.f1.length c3)) (blk_put (blk_put H5.out 0 (.int .i64 d.f0) rfl) 1 (.slice A3 d.f1.length c3) rfl) (by decide) 2 (.slice B3 d.f2.length k3))
          replace G4 := Lib.hid (Kd.R_set (Kd.R_set (Kd.R_set G4.out H5.out (by decide) 0 (.int .i64 d.f0)) (blk_put H5.out 0 (.int .i64 d.f0) rfl) (by decide) 1 (.slice A3 d.f1.length c3)) (blk_put (blk_put H5.out 0 (.int .i64 d.f0) rfl) 1 (.slice A3 d.f1.length c3) rfl) (by decide) 2 (.slice B3 d.f2.length k3))
          replace H6 := Lib.hid (blk_far (blk_far (blk_far H6.out (p := ⟨b5, 0, none⟩) HNE.out.symm (.int .i64 d.f0)) (p := ⟨b5, 1, none⟩) HNE.out.symm (.slice A3 d.f1.length c3)) (p := ⟨b5, 2, none⟩) HNE.out.symm (.slice B3 d.f2.length k3))
          replace H5 := Lib.hid (blk_put (blk_put (blk_put H5.out 0 (.int .i64 d.f0) rfl) 1 (.slice A3 d.f1.length c3) rfl) 2 (.slice B3 d.f2.length k3) rfl)
          have HV5 : Hid (Below wb.heap.size wb (((V4.setCell ⟨b5, 0, none⟩ (.int .i64 d.f0)).setCell ⟨b5, 1, none⟩ (.slice A3 d.f1.length c3)).setCell ⟨b5, 2, none⟩ (.slice B3 d.f2.length k3))) := Lib.hid (((HV4.out.setCell (p := ⟨b5, 0, none⟩) gb5.out _).setCell (p := ⟨b5, 1, none⟩) gb5.out _).setCell (p := ⟨b5, 2, none⟩) gb5.out _)
          refine hK.out _ _ (HSt.out _ HV5.out) (fun hHeld => ?_)
          clear hK K hHeld HV4 x0 z0 x1 z1 x2 z2
          generalize (((V4.setCell ⟨b5, 0, none⟩ (.int .i64 d.f0)).setCell ⟨b5, 1, none⟩ (.slice A3 d.f1.length c3)).setCell ⟨b5, 2, none⟩ (.slice B3 d.f2.length k3)) = V5 at *
          refine one_ (i := 7) (N := none) #[true, true, true, true, true, true, true, true] rfl rfl (by kernel_rfl) (by decide) (fun K hK => ?_)
          have x0 : V5.cell? ⟨b6, 0, none⟩ = some (.int .i64 0) := blk_at H6.out 0 rfl
          have z0 : V5.frozen? ⟨b6, 0, none⟩ = false := blk_frozen H6.out 0
          have x1 : V5.cell? ⟨b6, 1, none⟩ = some (.slice none 0 0) := blk_at H6.out 1 rfl
          have z1 : V5.frozen? ⟨b6, 1, none⟩ = false := blk_frozen H6.out 1
          have x2 : V5.cell? ⟨b6, 2, none⟩ = some (.slice none 0 0) := blk_at H6.out 2 rfl
          have z2 : V5.frozen? ⟨b6, 2, none⟩ = false := blk_frozen H6.out 2
          refine skip_ (w1 := (((V5.setCell ⟨b6, 0, none⟩ (.int .i64 e.f0)).setCell ⟨b6, 1, none⟩ (.slice A4 e.f1.length c4)).setCell ⟨b6, 2, none⟩ (.slice B4 e.f2.length k4))) (by rfl) rfl (by go_simp) ?_
          replace R3 := Lib.hid (Kd.R_set (Kd.R_set (Kd.R_set R3.out H6.out (by decide) 0 (.int .i64 e.f0)) (blk_put H6.out 0 (.int .i64 e.f0) rfl) (by decide) 1 (.slice A4 e.f1.length c4)) (blk_put (blk_put H6.out 0 (.int .i64 e.f0) rfl) 1 (.slice A4 e.f1.length c4) rfl) (by decide) 2 (.slice B4 e.f2.length k4))
          replace G3 := Lib.hid (Kd.R_set (Kd.R_set (Kd.R_set G3.out H6.out (by decide) 0 (.int .i64 e.f0)) (blk_put H6.out 0 (.int .i64 e.f0) rfl) (by decide) 1 (.slice A4 e.f1.length c4)) (blk_put (blk_put H6.out 0 (.int .i64 e.f0) rfl) 1 (.slice A4 e.f1.length c4) rfl) (by decide) 2 (.slice B4 e.f2.length k4))
          replace R4 := Lib.hid (Kd.R_set (Kd.R_set (Kd.R_set R4.out H6.out (by decide) 0 (.int .i64 e.f0)) (blk_put H6.out 0 (.int .i64 e.f0) rfl) (by decide) 1 (.slice A4 e.f1.length c4)) (blk_put (blk_put H6.out 0 (.int .i64 e.f0) rfl) 1 (.slice A4 e.f1.length c4) rfl) (by decide) 2 (.slice B4 e.f2.length k4))
          replace G4 := Lib.hid (Kd.R_set (Kd.R_set (Kd.R_set G4.out H6.out (by decide) 0 (.int .i64 e.f0)) (blk_put H6.out 0 (.int .i64 e.f0) rfl) (by decide) 1 (.slice A4 e.f1.length c4)) (blk_put (blk_put H6.out 0 (.int .i64 e.f0) rfl) 1 (.slice A4 e.f1.length c4) rfl) (by decide) 2 (.slice B4 e.f2.length k4))
          replace H5 := Lib.hid (blk_far (blk_far (blk_far H5.out (p := ⟨b6, 0, none⟩) HNE.out (.int .i64 e.f0)) (p := ⟨b6, 1, none⟩) HNE.out (.slice A4 e.f1.length c4)) (p := ⟨b6, 2, none⟩) HNE.out (.slice B4 e.f2.length k4))
          replace H6 := Lib.hid (blk_put (blk_put (blk_put H6.out 0 (.int .i64 e.f0) rfl) 1 (.slice A4 e.f1.length c4) rfl) 2 (.slice B4 e.f2.length k4) rfl)
          have HV6 : Hid (Below wb.heap.size wb (((V5.setCell ⟨b6, 0, none⟩ (.int .i64 e.f0)).setCell ⟨b6, 1, none⟩ (.slice A4 e.f1.length c4)).setCell ⟨b6, 2, none⟩ (.slice B4 e.f2.length k4))) := Lib.hid (((HV5.out.setCell (p := ⟨b6, 0, none⟩) gb6.out _).setCell (p := ⟨b6, 1, none⟩) gb6.out _).setCell (p := ⟨b6, 2, none⟩) gb6.out _)
          refine hK.out _ _ (HSt.out _ HV6.out) (fun hHeld => ?_)
          clear hK K hHeld HV5 x0 z0 x1 z1 x2 z2
          generalize (((V5.setCell ⟨b6, 0, none⟩ (.int .i64 e.f0)).setCell ⟨b6, 1, none⟩ (.slice A4 e.f1.length c4)).setCell ⟨b6, 2, none⟩ (.slice B4 e.f2.length k4)) = V6 at *
          refine done_ (by kernel_rfl) ?_
          go_wp2_with (fail)
          go_meet
          exact ⟨b5, b6, A3, c3, B3, k3, A4, c4, B4, k4, rfl, rfl, H5, H6, R3, G3, R4, G4, HV6⟩
        · obtain ⟨b5, hnb⟩ : ∃ nb, nb = V2.heap.size := ⟨_, rfl⟩
          refine value_ (w1 := (V2.alloc (.cells #[.int .i64 0, .slice none 0 0, .slice none 0 0] 27))) (v := .pointer (some ⟨b5, 0, none⟩)) (by rfl) rfl (by rw [hnb]; go_simp) ?_
          have hal : Hid (Below V2.heap.size V2 (V2.alloc (.cells #[.int .i64 0, .slice none 0 0, .slice none 0 0] 27))) := Lib.hid ((Below.refl _ _).alloc (Nat.le_refl _) _)
          have H5 : Hid ((V2.alloc (.cells #[.int .i64 0, .slice none 0 0, .slice none 0 0] 27)).heap[b5]? = some (.cells #[.int .i64 0, .slice none 0 0, .slice none 0 0] 27 (0, 0))) := by rw [hnb]; exact Lib.hid (blk_new _ _)
          have gb5 : Hid (wb.heap.size ≤ b5) := by rw [hnb]; exact Lib.hid HV2.out.size
          have HNE : Hid (b5 ≠ b6) := Lib.hid (by have := blk_lt H6.out; omega)
          clear hnb
          generalize (V2.alloc (.cells #[.int .i64 0, .slice none 0 0, .slice none 0 0] 27)) = V3 at hal H5 ⊢
          replace R3 := Lib.hid (Kd.R_below R3.out hal.out)
          replace G3 := Lib.hid (Kd.R_below G3.out hal.out)
          replace H6 := Lib.hid (blk_below H6.out hal.out)
          have HV3 : Hid (Below wb.heap.size wb V3) := HV2.out.trans (hal.out.mono HV2.out.size)
          refine hK.out _ _ (HSt.out _ HV3.out) (fun hHeld => ?_)
          clear hK K hal HV2
          refine norm_ (a' := ?_) ?_ ?_
          rotate_left
          · show Act.put _ (some 5) _ = _
            go_simp
            rfl
          refine one_ (i := 3) (N := some 19) #[true, true, true, true, true, true, false, false] rfl rfl (by kernel_rfl) (by decide) (fun K hK => ?_)
          refine goes_ Try.func13 (by kernel_rfl) rfl #[.agg #[.int .i64 e.f0, .slice A2 e.f1.length c2, .slice B2 e.f2.length k2]] (by rfl) rfl rfl (by simp only [List.map_toArray, List.map_cons, List.map_nil]; rfl) ?_
          refine ((HCE.out V3 (HBw.out.trans (HV3.out.mono HBw.out.size)))).mono ?_
          rintro e' V4 ⟨A4, c4, B4, k4, rfl, R4, G4, hb⟩
          refine ⟨_, rfl, ?_⟩
          replace R3 := Lib.hid (Kd.R_below R3.out hb.out)
          replace G3 := Lib.hid (Kd.R_below G3.out hb.out)
          replace H6 := Lib.hid (blk_below H6.out hb.out)
          replace H5 := Lib.hid (blk_below H5.out hb.out)
          have HV4 : Hid (Below wb.heap.size wb V4) := HV3.out.trans (hb.out.mono HV3.out.size)
          replace R4 := Lib.hid (Kd.R_lower R4.out HV3.out.size)
          replace G4 := Lib.hid (Kd.R_lower G4.out HV3.out.size)
          refine hK.out _ _ (HSt.out _ HV4.out) (fun hHeld => ?_)
          clear hK K hb HV3
          refine norm_ (a' := ?_) ?_ ?_
          rotate_left
          · show Act.put _ (some 19) _ = _
            go_simp
            rfl
          refine one_ (i := 6) (N := none) #[true, true, true, true, true, true, true, false] rfl rfl (by kernel_rfl) (by decide) (fun K hK => ?_)
          have x0 : V4.cell? ⟨b5, 0, none⟩ = some (.int .i64 0) := blk_at H5.out 0 rfl
          have z0 : V4.frozen? ⟨b5, 0, none⟩ = false := blk_frozen H5.out 0
          have x1 : V4.cell? ⟨b5, 1, none⟩ = some (.slice none 0 0) := blk_at H5.out 1 rfl
          have z1 : V4.frozen? ⟨b5, 1, none⟩ = false := blk_frozen H5.out 1
          have x2 : V4.cell? ⟨b5, 2, none⟩ = some (.slice none 0 0) := blk_at H5.out 2 rfl
          have z2 : V4.frozen? ⟨b5, 2, none⟩ = false := blk_frozen H5.out 2
          refine skip_ (w1 := (((V4.setCell ⟨b5, 0, none⟩ (.int .i64 d.f0)).setCell ⟨b5, 1, none⟩ (.slice A3 d.f1.length c3)).setCell ⟨b5, 2, none⟩ (.slice B3 d.f2.length k3))) (by rfl) rfl (by go_simp) ?_
          replace R3 := Lib.hid (Kd.R_set (Kd.R_set (Kd.R_set R3.out H5.out (by decide) 0 (.int .i64 d.f0)) (blk_put H5.out 0 (.int .i64 d.f0) rfl) (by decide) 1 (.slice A3 d.f1.length c3)) (blk_put (blk_put H5.out 0 (.int .i64 d.f0) rfl) 1 (.slice A3 d.f1.length c3) rfl) (by decide) 2 (.slice B3 d.f2.length k3))
          replace G3 := Lib.hid (Kd.R_set (Kd.R_set (Kd.R_set G3.out H5.out (by decide) 0 (.int .i64 d.f0)) (blk_put H5.out 0 (.int .i64 d.f0) rfl) (by decide) 1 (.slice A3 d.f1.length c3)) (blk_put (blk_put H5.out 0 (.int .i64 d.f0) rfl) 1 (.slice A3 d.f1.length c3) rfl) (by decide) 2 (.slice B3 d.f2.length k3))
          replace R4 := Lib.hid (Kd.R_set (Kd.R_set (Kd.R_set R4.out H5.out (by decide) 0 (.int .i64 d.f0)) (blk_put H5.out 0 (.int .i64 d.f0) rfl) (by decide) 1 (.slice A3 d.f1.length c3)) (blk_put (blk_put H5.out 0 (.int .i64 d.f0) rfl) 1 (.slice A3 d.f1.length c3) rfl) (by decide) 2 (.slice B3 d.f2.length k3))
          replace G4 := Lib.hid (Kd.R_set (Kd.R_set (Kd.R_set G4.out H5.out (by decide) 0 (.int .i64 d.f0)) (blk_put H5.out 0 (.int .i64 d.f0) rfl) (by decide) 1 (.slice A3 d.f1.length c3)) (blk_put (blk_put H5.out 0 (.int .i64 d.f0) rfl) 1 (.slice A3 d.f1.length c3) rfl) (by decide) 2 (.slice B3 d.f2.length k3))
          replace H6 := Lib.hid (blk_far (blk_far (blk_far H6.out (p := ⟨b5, 0, none⟩) HNE.out.symm (.int .i64 d.f0)) (p := ⟨b5, 1, none⟩) HNE.out.symm (.slice A3 d.f1.length c3)) (p := ⟨b5, 2, none⟩) HNE.out.symm (.slice B3 d.f2.length k3))
          replace H5 := Lib.hid (blk_put (blk_put (blk_put H5.out 0 (.int .i64 d.f0) rfl) 1 (.slice A3 d.f1.length c3) rfl) 2 (.slice B3 d.f2.length k3) rfl)
          have HV5 : Hid (Below wb.heap.size wb (((V4.setCell ⟨b5, 0, none⟩ (.int .i64 d.f0)).setCell ⟨b5, 1, none⟩ (.slice A3 d.f1.length c3)).setCell ⟨b5, 2, none⟩ (.slice B3 d.f2.length k3))) := Lib.hid (((HV4.out.setCell (p := ⟨b5, 0, none⟩) gb5.out _).setCell (p := ⟨b5, 1, none⟩) gb5.out _).setCell (p := ⟨b5, 2, none⟩) gb5.out _)
          refine hK.out _ _ (HSt.out _ HV5.out) (fun hHeld => ?_)
          clear hK K hHeld HV4 x0 z0 x1 z1 x2 z2
          generalize (((V4.setCell ⟨b5, 0, none⟩ (.int .i64 d.f0)).setCell ⟨b5, 1, none⟩ (.slice A3 d.f1.length c3)).setCell ⟨b5, 2, none⟩ (.slice B3 d.f2.length k3)) = V5 at *
          refine one_ (i := 7) (N := none) #[true, true, true, true, true, true, true, true] rfl rfl (by kernel_rfl) (by decide) (fun K hK => ?_)
          have x0 : V5.cell? ⟨b6, 0, none⟩ = some (.int .i64 0) := blk_at H6.out 0 rfl
          have z0 : V5.frozen? ⟨b6, 0, none⟩ = false := blk_frozen H6.out 0
          have x1 : V5.cell? ⟨b6, 1, none⟩ = some (.slice none 0 0) := blk_at H6.out 1 rfl
          have z1 : V5.frozen? ⟨b6, 1, none⟩ = false := blk_frozen H6.out 1
          have x2 : V5.cell? ⟨b6, 2, none⟩ = some (.slice none 0 0) := blk_at H6.out 2 rfl
          have z2 : V5.frozen? ⟨b6, 2, none⟩ = false := blk_frozen H6.out 2
          refine skip_ (w1 := (((V5.setCell ⟨b6, 0, none⟩ (.int .i64 e.f0)).setCell ⟨b6, 1, none⟩ (.slice A4 e.f1.length c4)).setCell ⟨b6, 2, none⟩ (.slice B4 e.f2.length k4))) (by rfl) rfl (by go_simp) ?_
          replace R3 := Lib.hid (Kd.R_set (Kd.R_set (Kd.R_set R3.out H6.out (by decide) 0 (.int .i64 e.f0)) (blk_put H6.out 0 (.int .i64 e.f0) rfl) (by decide) 1 (.slice A4 e.f1.length c4)) (blk_put (blk_put H6.out 0 (.int .i64 e.f0) rfl) 1 (.slice A4 e.f1.length c4) rfl) (by decide) 2 (.slice B4 e.f2.length k4))
          replace G3 := Lib.hid (Kd.R_set (Kd.R_set (Kd.R_set G3.out H6.out (by decide) 0 (.int .i64 e.f0)) (blk_put H6.out 0 (.int .i64 e.f0) rfl) (by decide) 1 (.slice A4 e.f1.length c4)) (blk_put (blk_put H6.out 0 (.int .i64 e.f0) rfl) 1 (.slice A4 e.f1.length c4) rfl) (by decide) 2 (.slice B4 e.f2.length k4))
          replace R4 := Lib.hid (Kd.R_set (Kd.R_set (Kd.R_set R4.out H6.out (by decide) 0 (.int .i64 e.f0)) (blk_put H6.out 0 (.int .i64 e.f0) rfl) (by decide) 1 (.slice A4 e.f1.length c4)) (blk_put (blk_put H6.out 0 (.int .i64 e.f0) rfl) 1 (.slice A4 e.f1.length c4) rfl) (by decide) 2 (.slice B4 e.f2.length k4))
          replace G4 := Lib.hid (Kd.R_set (Kd.R_set (Kd.R_set G4.out H6.out (by decide) 0 (.int .i64 e.f0)) (blk_put H6.out 0 (.int .i64 e.f0) rfl) (by decide) 1 (.slice A4 e.f1.length c4)) (blk_put (blk_put H6.out 0 (.int .i64 e.f0) rfl) 1 (.slice A4 e.f1.length c4) rfl) (by decide) 2 (.slice B4 e.f2.length k4))
          replace H5 := Lib.hid (blk_far (blk_far (blk_far H5.out (p := ⟨b6, 0, none⟩) HNE.out (.int .i64 e.f0)) (p := ⟨b6, 1, none⟩) HNE.out (.slice A4 e.f1.length c4)) (p := ⟨b6, 2, none⟩) HNE.out (.slice B4 e.f2.length k4))
          replace H6 := Lib.hid (blk_put (blk_put (blk_put H6.out 0 (.int .i64 e.f0) rfl) 1 (.slice A4 e.f1.length c4) rfl) 2 (.slice B4 e.f2.length k4) rfl)
          have HV6 : Hid (Below wb.heap.size wb (((V5.setCell ⟨b6, 0, none⟩ (.int .i64 e.f0)).setCell ⟨b6, 1, none⟩ (.slice A4 e.f1.length c4)).setCell ⟨b6, 2, none⟩ (.slice B4 e.f2.length k4))) := Lib.hid (((HV5.out.setCell (p := ⟨b6, 0, none⟩) gb6.out _).setCell (p := ⟨b6, 1, none⟩) gb6.out _).setCell (p := ⟨b6, 2, none⟩) gb6.out _)
          refine hK.out _ _ (HSt.out _ HV6.out) (fun hHeld => ?_)
          clear hK K hHeld HV5 x0 z0 x1 z1 x2 z2
          generalize (((V5.setCell ⟨b6, 0, none⟩ (.int .i64 e.f0)).setCell ⟨b6, 1, none⟩ (.slice A4 e.f1.length c4)).setCell ⟨b6, 2, none⟩ (.slice B4 e.f2.length k4)) = V6 at *
          refine done_ (by kernel_rfl) ?_
          go_wp2_with (fail)
          go_meet
          exact ⟨b5, b6, A3, c3, B3, k3, A4, c4, B4, k4, rfl, rfl, H5, H6, R3, G3, R4, G4, HV6⟩
      · obtain ⟨b5, hnb⟩ : ∃ nb, nb = V1.heap.size := ⟨_, rfl⟩
        refine value_ (w1 := (V1.alloc (.cells #[.int .i64 0, .slice none 0 0, .slice none 0 0] 27))) (v := .pointer (some ⟨b5, 0, none⟩)) (by rfl) rfl (by rw [hnb]; go_simp) ?_
        have hal : Hid (Below V1.heap.size V1 (V1.alloc (.cells #[.int .i64 0, .slice none 0 0, .slice none 0 0] 27))) := Lib.hid ((Below.refl _ _).alloc (Nat.le_refl _) _)
        have H5 : Hid ((V1.alloc (.cells #[.int .i64 0, .slice none 0 0, .slice none 0 0] 27)).heap[b5]? = some (.cells #[.int .i64 0, .slice none 0 0, .slice none 0 0] 27 (0, 0))) := by rw [hnb]; exact Lib.hid (blk_new _ _)
        have gb5 : Hid (wb.heap.size ≤ b5) := by rw [hnb]; exact Lib.hid HV1.out.size
        have HNE : Hid (b5 ≠ b6) := Lib.hid (by have := blk_lt H6.out; omega)
        clear hnb
        generalize (V1.alloc (.cells #[.int .i64 0, .slice none 0 0, .slice none 0 0] 27)) = V2 at hal H5 ⊢
        replace H6 := Lib.hid (blk_below H6.out hal.out)
        have HV2 : Hid (Below wb.heap.size wb V2) := HV1.out.trans (hal.out.mono HV1.out.size)
        refine hK.out _ _ (HSt.out _ HV2.out) (fun hHeld => ?_)
        clear hK K hal HV1
        refine norm_ (a' := ?_) ?_ ?_
        rotate_left
        · show Act.put _ (some 5) _ = _
          go_simp
          rfl
        refine one_ (i := 1) (N := some 17) #[true, true, true, false, true, true, false, false] rfl rfl (by kernel_rfl) (by decide) (fun K hK => ?_)
        refine goes_ Try.func13 (by kernel_rfl) rfl #[.agg #[.int .i64 d.f0, .slice A1 d.f1.length c1, .slice B1 d.f2.length k1]] (by rfl) rfl rfl (by simp only [List.map_toArray, List.map_cons, List.map_nil]; rfl) ?_
        refine ((HCD.out V2 (HBw.out.trans (HV2.out.mono HBw.out.size)))).mono ?_
        rintro e' V3 ⟨A3, c3, B3, k3, rfl, R3, G3, hb⟩
        refine ⟨_, rfl, ?_⟩
        replace H6 := Lib.hid (blk_below H6.out hb.out)
        replace H5 := Lib.hid (blk_below H5.out hb.out)
        have HV3 : Hid (Below wb.heap.size wb V3) := HV2.out.trans (hb.out.mono HV2.out.size)
        replace R3 := Lib.hid (Kd.R_lower R3.out HV2.out.size)
        replace G3 := Lib.hid (Kd.R_lower G3.out HV2.out.size)
        refine hK.out _ _ (HSt.out _ HV3.out) (fun hHeld => ?_)
        clear hK K hb HV2
        refine norm_ (a' := ?_) ?_ ?_
        rotate_left
        · show Act.put _ (some 17) _ = _
          go_simp
          rfl
        refine one_ (i := 3) (N := some 19) #[true, true, true, true, true, true, false, false] rfl rfl (by kernel_rfl) (by decide) (fun K hK => ?_)
        refine goes_ Try.func13 (by kernel_rfl) rfl #[.agg #[.int .i64 e.f0, .slice A2 e.f1.length c2, .slice B2 e.f2.length k2]] (by rfl) rfl rfl (by simp only [List.map_toArray, List.map_cons, List.map_nil]; rfl) ?_
        refine ((HCE.out V3 (HBw.out.trans (HV3.out.mono HBw.out.size)))).mono ?_
        rintro e' V4 ⟨A4, c4, B4, k4, rfl, R4, G4, hb⟩
        refine ⟨_, rfl, ?_⟩
        replace R3 := Lib.hid (Kd.R_below R3.out hb.out)
        replace G3 := Lib.hid (Kd.R_below G3.out hb.out)
        replace H6 := Lib.hid (blk_below H6.out hb.out)
        replace H5 := Lib.hid (blk_below H5.out hb.out)
        have HV4 : Hid (Below wb.heap.size wb V4) := HV3.out.trans (hb.out.mono HV3.out.size)
        replace R4 := Lib.hid (Kd.R_lower R4.out HV3.out.size)
        replace G4 := Lib.hid (Kd.R_lower G4.out HV3.out.size)
        refine hK.out _ _ (HSt.out _ HV4.out) (fun hHeld => ?_)
        clear hK K hb HV3
        refine norm_ (a' := ?_) ?_ ?_
        rotate_left
        · show Act.put _ (some 19) _ = _
          go_simp
          rfl
        refine one_ (i := 6) (N := none) #[true, true, true, true, true, true, true, false] rfl rfl (by kernel_rfl) (by decide) (fun K hK => ?_)
        have x0 : V4.cell? ⟨b5, 0, none⟩ = some (.int .i64 0) := blk_at H5.out 0 rfl
        have z0 : V4.frozen? ⟨b5, 0, none⟩ = false := blk_frozen H5.out 0
        have x1 : V4.cell? ⟨b5, 1, none⟩ = some (.slice none 0 0) := blk_at H5.out 1 rfl
        have z1 : V4.frozen? ⟨b5, 1, none⟩ = false := blk_frozen H5.out 1
        have x2 : V4.cell? ⟨b5, 2, none⟩ = some (.slice none 0 0) := blk_at H5.out 2 rfl
        have z2 : V4.frozen? ⟨b5, 2, none⟩ = false := blk_frozen H5.out 2
        refine skip_ (w1 := (((V4.setCell ⟨b5, 0, none⟩ (.int .i64 d.f0)).setCell ⟨b5, 1, none⟩ (.slice A3 d.f1.length c3)).setCell ⟨b5, 2, none⟩ (.slice B3 d.f2.length k3))) (by rfl) rfl (by go_simp) ?_
        replace R3 := Lib.hid (Kd.R_set (Kd.R_set (Kd.R_set R3.out H5.out (by decide) 0 (.int .i64 d.f0)) (blk_put H5.out 0 (.int .i64 d.f0) rfl) (by decide) 1 (.slice A3 d.f1.length c3)) (blk_put (blk_put H5.out 0 (.int .i64 d.f0) rfl) 1 (.slice A3 d.f1.length c3) rfl) (by decide) 2 (.slice B3 d.f2.length k3))
        replace G3 := Lib.hid (Kd.R_set (Kd.R_set (Kd.R_set G3.out H5.out (by decide) 0 (.int .i64 d.f0)) (blk_put H5.out 0 (.int .i64 d.f0) rfl) (by decide) 1 (.slice A3 d.f1.length c3)) (blk_put (blk_put H5.out 0 (.int .i64 d.f0) rfl) 1 (.slice A3 d.f1.length c3) rfl) (by decide) 2 (.slice B3 d.f2.length k3))
        replace R4 := Lib.hid (Kd.R_set (Kd.R_set (Kd.R_set R4.out H5.out (by decide) 0 (.int .i64 d.f0)) (blk_put H5.out 0 (.int .i64 d.f0) rfl) (by decide) 1 (.slice A3 d.f1.length c3)) (blk_put (blk_put H5.out 0 (.int .i64 d.f0) rfl) 1 (.slice A3 d.f1.length c3) rfl) (by decide) 2 (.slice B3 d.f2.length k3))
        replace G4 := Lib.hid (Kd.R_set (Kd.R_set (Kd.R_set G4.out H5.out (by decide) 0 (.int .i64 d.f0)) (blk_put H5.out 0 (.int .i64 d.f0) rfl) (by decide) 1 (.slice A3 d.f1.length c3)) (blk_put (blk_put H5.out 0 (.int .i64 d.f0) rfl) 1 (.slice A3 d.f1.length c3) rfl) (by decide) 2 (.slice B3 d.f2.length k3))
        replace H6 := Lib.hid (blk_far (blk_far (blk_far H6.out (p := ⟨b5, 0, none⟩) HNE.out.symm (.int .i64 d.f0)) (p := ⟨b5, 1, none⟩) HNE.out.symm (.slice A3 d.f1.length c3)) (p := ⟨b5, 2, none⟩) HNE.out.symm (.slice B3 d.f2.length k3))
        replace H5 := Lib.hid (blk_put (blk_put (blk_put H5.out 0 (.int .i64 d.f0) rfl) 1 (.slice A3 d.f1.length c3) rfl) 2 (.slice B3 d.f2.length k3) rfl)
        have HV5 : Hid (Below wb.heap.size wb (((V4.setCell ⟨b5, 0, none⟩ (.int .i64 d.f0)).setCell ⟨b5, 1, none⟩ (.slice A3 d.f1.length c3)).setCell ⟨b5, 2, none⟩ (.slice B3 d.f2.length k3))) := Lib.hid (((HV4.out.setCell (p := ⟨b5, 0, none⟩) gb5.out _).setCell (p := ⟨b5, 1, none⟩) gb5.out _).setCell (p := ⟨b5, 2, none⟩) gb5.out _)
        refine hK.out _ _ (HSt.out _ HV5.out) (fun hHeld => ?_)
        clear hK K hHeld HV4 x0 z0 x1 z1 x2 z2
        generalize (((V4.setCell ⟨b5, 0, none⟩ (.int .i64 d.f0)).setCell ⟨b5, 1, none⟩ (.slice A3 d.f1.length c3)).setCell ⟨b5, 2, none⟩ (.slice B3 d.f2.length k3)) = V5 at *
        refine one_ (i := 7) (N := none) #[true, true, true, true, true, true, true, true] rfl rfl (by kernel_rfl) (by decide) (fun K hK => ?_)
        have x0 : V5.cell? ⟨b6, 0, none⟩ = some (.int .i64 0) := blk_at H6.out 0 rfl
        have z0 : V5.frozen? ⟨b6, 0, none⟩ = false := blk_frozen H6.out 0
        have x1 : V5.cell? ⟨b6, 1, none⟩ = some (.slice none 0 0) := blk_at H6.out 1 rfl
        have z1 : V5.frozen? ⟨b6, 1, none⟩ = false := blk_frozen H6.out 1
        have x2 : V5.cell? ⟨b6, 2, none⟩ = some (.slice none 0 0) := blk_at H6.out 2 rfl
        have z2 : V5.frozen? ⟨b6, 2, none⟩ = false := blk_frozen H6.out 2
        refine skip_ (w1 := (((V5.setCell ⟨b6, 0, none⟩ (.int .i64 e.f0)).setCell ⟨b6, 1, none⟩ (.slice A4 e.f1.length c4)).setCell ⟨b6, 2, none⟩ (.slice B4 e.f2.length k4))) (by rfl) rfl (by go_simp) ?_
        replace R3 := Lib.hid (Kd.R_set (Kd.R_set (Kd.R_set R3.out H6.out (by decide) 0 (.int .i64 e.f0)) (blk_put H6.out 0 (.int .i64 e.f0) rfl) (by decide) 1 (.slice A4 e.f1.length c4)) (blk_put (blk_put H6.out 0 (.int .i64 e.f0) rfl) 1 (.slice A4 e.f1.length c4) rfl) (by decide) 2 (.slice B4 e.f2.length k4))
        replace G3 := Lib.hid (Kd.R_set (Kd.R_set (Kd.R_set G3.out H6.out (by decide) 0 (.int .i64 e.f0)) (blk_put H6.out 0 (.int .i64 e.f0) rfl) (by decide) 1 (.slice A4 e.f1.length c4)) (blk_put (blk_put H6.out 0 (.int .i64 e.f0) rfl) 1 (.slice A4 e.f1.length c4) rfl) (by decide) 2 (.slice B4 e.f2.length k4))
        replace R4 := Lib.hid (Kd.R_set (Kd.R_set (Kd.R_set R4.out H6.out (by decide) 0 (.int .i64 e.f0)) (blk_put H6.out 0 (.int .i64 e.f0) rfl) (by decide) 1 (.slice A4 e.f1.length c4)) (blk_put (blk_put H6.out 0 (.int .i64 e.f0) rfl) 1 (.slice A4 e.f1.length c4) rfl) (by decide) 2 (.slice B4 e.f2.length k4))
        replace G4 := Lib.hid (Kd.R_set (Kd.R_set (Kd.R_set G4.out H6.out (by decide) 0 (.int .i64 e.f0)) (blk_put H6.out 0 (.int .i64 e.f0) rfl) (by decide) 1 (.slice A4 e.f1.length c4)) (blk_put (blk_put H6.out 0 (.int .i64 e.f0) rfl) 1 (.slice A4 e.f1.length c4) rfl) (by decide) 2 (.slice B4 e.f2.length k4))
        replace H5 := Lib.hid (blk_far (blk_far (blk_far H5.out (p := ⟨b6, 0, none⟩) HNE.out (.int .i64 e.f0)) (p := ⟨b6, 1, none⟩) HNE.out (.slice A4 e.f1.length c4)) (p := ⟨b6, 2, none⟩) HNE.out (.slice B4 e.f2.length k4))
        replace H6 := Lib.hid (blk_put (blk_put (blk_put H6.out 0 (.int .i64 e.f0) rfl) 1 (.slice A4 e.f1.length c4) rfl) 2 (.slice B4 e.f2.length k4) rfl)
        have HV6 : Hid (Below wb.heap.size wb (((V5.setCell ⟨b6, 0, none⟩ (.int .i64 e.f0)).setCell ⟨b6, 1, none⟩ (.slice A4 e.f1.length c4)).setCell ⟨b6, 2, none⟩ (.slice B4 e.f2.length k4))) := Lib.hid (((HV5.out.setCell (p := ⟨b6, 0, none⟩) gb6.out _).setCell (p := ⟨b6, 1, none⟩) gb6.out _).setCell (p := ⟨b6, 2, none⟩) gb6.out _)
        refine hK.out _ _ (HSt.out _ HV6.out) (fun hHeld => ?_)
        clear hK K hHeld HV5 x0 z0 x1 z1 x2 z2
        generalize (((V5.setCell ⟨b6, 0, none⟩ (.int .i64 e.f0)).setCell ⟨b6, 1, none⟩ (.slice A4 e.f1.length c4)).setCell ⟨b6, 2, none⟩ (.slice B4 e.f2.length k4)) = V6 at *
        refine done_ (by kernel_rfl) ?_
        go_wp2_with (fail)
        go_meet
        exact ⟨b5, b6, A3, c3, B3, k3, A4, c4, B4, k4, rfl, rfl, H5, H6, R3, G3, R4, G4, HV6⟩
  case rest =>
  obtain ⟨b5, b6, A3, c3, B3, k3, A4, c4, B4, k4, rfl, rfl, H5, H6, R3, G3, R4, G4, HVb⟩ := hcut
  obtain ⟨v0, hv0⟩ : ∃ W, W = wc := ⟨_, rfl⟩
  rw [← hv0] at H5 H6 R3 G3 R4 G4 HVb ⊢
  clear hv0
  replace H0 := Lib.hid (blk_below H0.out HVb.out)
  replace H1 := Lib.hid (blk_below H1.out HVb.out)
  have HB0 : Hid (Below w.heap.size w v0) := HBw.out.trans (HVb.out.mono HBw.out.size)
  have CX := Lib.hid (Kd.R_reads' R3.out).2
  have CG := Lib.hid (Kd.R_reads' G3.out).2
  have CY := Lib.hid (Kd.R_reads' R4.out).2
  have CH := Lib.hid (Kd.R_reads' G4.out).2
  clear HSt R3 R4 G3 G4 HVb HBw HCD HCE
  have HP1 : Hid (∀ W, Below w.heap.size w W → Calls Try.prog 20 #[.agg #[.int .i64 d.f0, .slice A1 d.f1.length c1, .slice B1 d.f2.length k1], .agg #[.int .i64 e.f0, .slice A2 e.f1.length c2, .slice B2 e.f2.length k2]] W fun e' w' => DD (joinD d e) (joinE d e) W e' w') := Lib.hid (fun W h => joinD20 d e A1 B1 A2 B2 c1 k1 c2 k2 W (Kd.C_below Q0.out h) (Kd.C_below Q1.out h) (Kd.C_below Q2.out h) (Kd.C_below Q3.out h))
  have a0 : v0.cell? ⟨g, 0, none⟩ = some (.int .i64 d.f0) := blk_at H0.out 0 rfl
  have a1 : v0.cell? ⟨g, 1, none⟩ = some (.slice A1 d.f1.length c1) := blk_at H0.out 1 rfl
  have a2 : v0.cell? ⟨g, 2, none⟩ = some (.slice B1 d.f2.length k1) := blk_at H0.out 2 rfl
  have b0 : v0.cell? ⟨(g + 1), 0, none⟩ = some (.int .i64 e.f0) := blk_at H1.out 0 rfl
  have b1 : v0.cell? ⟨(g + 1), 1, none⟩ = some (.slice A2 e.f1.length c2) := blk_at H1.out 1 rfl
  have b2 : v0.cell? ⟨(g + 1), 2, none⟩ = some (.slice B2 e.f2.length k2) := blk_at H1.out 2 rfl
  generalize hz : joinD d e = j at HP1
  have X1 := Lib.hid hz
  clear hz
  generalize hz : joinE d e = m1 at HP1
  have M1 := Lib.hid hz
  clear hz
  go_upto_region 5 with (go_at_call 20; refine (HP1.out _ HB0.out).mono ?_; rintro e' u1 ⟨A5, c5, B5, k5, rfl, C1, G1, hb1, L1⟩
                         clear a0 a1 a2 b0 b1 b2)
  have HBu : Hid (Below v0.heap.size v0 (u1.alloc (.cells #[.int .i64 j.f0, .slice A5 j.f1.length c5, .slice B5 j.f2.length k5] 27))) := Lib.hid (hb1.out.alloc hb1.out.size _)
  replace C1 := Lib.hid (Kd.C_alloc C1.out (.cells #[.int .i64 j.f0, .slice A5 j.f1.length c5, .slice B5 j.f2.length k5] 27))
  replace G1 := Lib.hid (Kd.C_alloc G1.out (.cells #[.int .i64 j.f0, .slice A5 j.f1.length c5, .slice B5 j.f2.length k5] 27))
  have K1 := Lib.hid (blk_new u1 (.cells #[.int .i64 j.f0, .slice A5 j.f1.length c5, .slice B5 j.f2.length k5] 27))
  replace H0 := Lib.hid (blk_below H0.out HBu.out)
  replace H1 := Lib.hid (blk_below H1.out HBu.out)
  replace H5 := Lib.hid (blk_below H5.out HBu.out)
  replace H6 := Lib.hid (blk_below H6.out HBu.out)
  obtain ⟨b1, hbb⟩ : ∃ b, b = u1.heap.size := ⟨_, rfl⟩
  rw [← hbb] at K1 ⊢
  generalize u1.alloc (.cells #[.int .i64 j.f0, .slice A5 j.f1.length c5, .slice B5 j.f2.length k5] 27) = v1 at *
  have HB1 : Hid (Below w.heap.size w v1) := HB0.out.trans (HBu.out.mono HB0.out.size)
  have HS1 := HBu
  clear hbb hb1 HBu
  have HF1 : Hid (Below v0.heap.size v0 v1) := HS1
  have HP2 : Hid (∀ W, Below v0.heap.size v0 W → Calls Try.prog 21 #[.agg #[.int .i64 d.f0, .slice A3 d.f1.length c3, .slice B3 d.f2.length k3], .agg #[.int .i64 e.f0, .slice A4 e.f1.length c4, .slice B4 e.f2.length k4]] W fun e' w' => DD (joinD d e) (joinE d e) W e' w') := Lib.hid (fun W h => (rjoin21 d.f0 d.f1 d.f2 e.f0 e.f1 e.f2 A3 B3 A4 B4 c3 k3 c4 k4 W (Kd.C_below CX.out.2 h) (Kd.C_below CG.out.2 h) (Kd.C_below CY.out.2 h) (Kd.C_below CH.out.2 h) CX.out.1 CG.out.1 CY.out.1 CH.out.1 pD gD pE gE).mono (fun _ _ h => h.dd))
  have a0 : v1.cell? ⟨b5, 0, none⟩ = some (.int .i64 d.f0) := blk_at H5.out 0 rfl
  have a1 : v1.cell? ⟨b5, 1, none⟩ = some (.slice A3 d.f1.length c3) := blk_at H5.out 1 rfl
  have a2 : v1.cell? ⟨b5, 2, none⟩ = some (.slice B3 d.f2.length k3) := blk_at H5.out 2 rfl
  have r0 : v1.cell? ⟨b6, 0, none⟩ = some (.int .i64 e.f0) := blk_at H6.out 0 rfl
  have r1 : v1.cell? ⟨b6, 1, none⟩ = some (.slice A4 e.f1.length c4) := blk_at H6.out 1 rfl
  have r2 : v1.cell? ⟨b6, 2, none⟩ = some (.slice B4 e.f2.length k4) := blk_at H6.out 2 rfl
  generalize hz : joinD d e = f at HP2
  have X2 := Lib.hid hz
  clear hz
  generalize hz : joinE d e = m2 at HP2
  have M2 := Lib.hid hz
  clear hz
  go_upto_region 6 with (go_at_call 21; refine (HP2.out _ HF1.out).mono ?_; rintro e' u2 ⟨A6, c6, B6, k6, rfl, C2, G2, hb2, L2⟩
                         clear a0 a1 a2 r0 r1 r2)
  have HBu : Hid (Below v1.heap.size v1 (u2.alloc (.cells #[.int .i64 f.f0, .slice A6 f.f1.length c6, .slice B6 f.f2.length k6] 27))) := Lib.hid (hb2.out.alloc hb2.out.size _)
  replace C2 := Lib.hid (Kd.C_alloc C2.out (.cells #[.int .i64 f.f0, .slice A6 f.f1.length c6, .slice B6 f.f2.length k6] 27))
  replace G2 := Lib.hid (Kd.C_alloc G2.out (.cells #[.int .i64 f.f0, .slice A6 f.f1.length c6, .slice B6 f.f2.length k6] 27))
  have K2 := Lib.hid (blk_new u2 (.cells #[.int .i64 f.f0, .slice A6 f.f1.length c6, .slice B6 f.f2.length k6] 27))
  replace H0 := Lib.hid (blk_below H0.out HBu.out)
  replace H1 := Lib.hid (blk_below H1.out HBu.out)
  replace H5 := Lib.hid (blk_below H5.out HBu.out)
  replace H6 := Lib.hid (blk_below H6.out HBu.out)
  replace K1 := Lib.hid (blk_below K1.out HBu.out)
  obtain ⟨b2, hbb⟩ : ∃ b, b = u2.heap.size := ⟨_, rfl⟩
  rw [← hbb] at K2 ⊢
  generalize u2.alloc (.cells #[.int .i64 f.f0, .slice A6 f.f1.length c6, .slice B6 f.f2.length k6] 27) = v2 at *
  have HB2 : Hid (Below w.heap.size w v2) := HB1.out.trans (HBu.out.mono HB1.out.size)
  have HS2 := HBu
  clear hbb hb2 HBu
  have HF2 : Hid (Below v0.heap.size v0 v2) := HF1.out.trans (HS2.out.mono HF1.out.size)
  have hm : m1 = m2 := M1.out.symm.trans M2.out
  subst hm
  have HTQ : Hid (j = f) := Lib.hid (X1.out.symm.trans X2.out)
  have H19 : Hid (∀ W, Below v2.heap.size v2 W → Calls Try.prog 19 #[.agg #[.int .i64 j.f0, .slice A5 j.f1.length c5, .slice B5 j.f2.length k5], .agg #[.int .i64 f.f0, .slice A6 f.f1.length c6, .slice B6 f.f2.length k6]] W fun e w' => SaysB true W e w') := Lib.hid (fun W h => by
    have := sameD19 j f A5 A6 B5 B6 c5 c6 k5 k6 v2 W (Kd.C_below C1.out HS2.out) C2.out (Kd.C_below G1.out HS2.out) G2.out h
    rw [eqB_true HTQ.out] at this
    exact this)
  have H19a : Hid (∀ W, Below v2.heap.size v2 W → Calls Try.prog 19 #[.agg #[.int .i64 d.f0, .slice A1 d.f1.length c1, .slice B1 d.f2.length k1], .agg #[.int .i64 d.f0, .slice A3 d.f1.length c3, .slice B3 d.f2.length k3]] W fun e w' => SaysB true W e w') := Lib.hid (fun W h => by
    have := sameD19 d d A1 A3 B1 B3 c1 c3 k1 k3 v2 W (Kd.C_below Q0.out HB2.out) (Kd.C_below CX.out.2 HF2.out) (Kd.C_below Q1.out HB2.out) (Kd.C_below CG.out.2 HF2.out) h
    rw [eqB_true rfl] at this
    exact this)
  have H19b : Hid (∀ W, Below v2.heap.size v2 W → Calls Try.prog 19 #[.agg #[.int .i64 e.f0, .slice A2 e.f1.length c2, .slice B2 e.f2.length k2], .agg #[.int .i64 e.f0, .slice A4 e.f1.length c4, .slice B4 e.f2.length k4]] W fun e w' => SaysB true W e w') := Lib.hid (fun W h => by
    have := sameD19 e e A2 A4 B2 B4 c2 c4 k2 k4 v2 W (Kd.C_below Q2.out HB2.out) (Kd.C_below CY.out.2 HF2.out) (Kd.C_below Q3.out HB2.out) (Kd.C_below CH.out.2 HF2.out) h
    rw [eqB_true rfl] at this
    exact this)
  have t0 : v2.cell? ⟨b1, 0, none⟩ = some (.int .i64 j.f0) := blk_at K1.out 0 rfl
  have t1 : v2.cell? ⟨b1, 1, none⟩ = some (.slice A5 j.f1.length c5) := blk_at K1.out 1 rfl
  have t2 : v2.cell? ⟨b1, 2, none⟩ = some (.slice B5 j.f2.length k5) := blk_at K1.out 2 rfl
  have q0 : v2.cell? ⟨b2, 0, none⟩ = some (.int .i64 f.f0) := blk_at K2.out 0 rfl
  have q1 : v2.cell? ⟨b2, 1, none⟩ = some (.slice A6 f.f1.length c6) := blk_at K2.out 1 rfl
  have q2 : v2.cell? ⟨b2, 2, none⟩ = some (.slice B6 f.f2.length k6) := blk_at K2.out 2 rfl
  go_wp2_with (first
    | (go_at_call_of 19 (.agg #[.int .i64 f.f0, .slice A6 f.f1.length c6, .slice B6 f.f2.length k6] : Value); refine (H19.out _ (Below.refl _ _)).mono ?_; rintro e u2 ⟨rfl, hb⟩
       have HU2 : Hid (Below v2.heap.size v2 u2) := hb
       have M4 := Lib.hid (blk_below H0.out HU2.out)
       have M5 := Lib.hid (blk_below H5.out HU2.out)
       have a0 : u2.cell? ⟨g, 0, none⟩ = some (.int .i64 d.f0) := blk_at M4.out 0 rfl
       have a1 : u2.cell? ⟨g, 1, none⟩ = some (.slice A1 d.f1.length c1) := blk_at M4.out 1 rfl
       have a2 : u2.cell? ⟨g, 2, none⟩ = some (.slice B1 d.f2.length k1) := blk_at M4.out 2 rfl
       have x0 : u2.cell? ⟨b5, 0, none⟩ = some (.int .i64 d.f0) := blk_at M5.out 0 rfl
       have x1 : u2.cell? ⟨b5, 1, none⟩ = some (.slice A3 d.f1.length c3) := blk_at M5.out 1 rfl
       have x2 : u2.cell? ⟨b5, 2, none⟩ = some (.slice B3 d.f2.length k3) := blk_at M5.out 2 rfl
       clear hb t0 t1 t2 q0 q1 q2)
    | (go_at_call_of 19 (.agg #[.int .i64 d.f0, .slice A3 d.f1.length c3, .slice B3 d.f2.length k3] : Value); refine (H19a.out _ HU2.out).mono ?_; rintro e u3 ⟨rfl, hb⟩
       have HU3 : Hid (Below v2.heap.size v2 u3) := HU2.out.trans (hb.out.mono HU2.out.size)
       have M6 := Lib.hid (blk_below H1.out HU3.out)
       have M7 := Lib.hid (blk_below H6.out HU3.out)
       have b0 : u3.cell? ⟨(g + 1), 0, none⟩ = some (.int .i64 e.f0) := blk_at M6.out 0 rfl
       have b1 : u3.cell? ⟨(g + 1), 1, none⟩ = some (.slice A2 e.f1.length c2) := blk_at M6.out 1 rfl
       have b2 : u3.cell? ⟨(g + 1), 2, none⟩ = some (.slice B2 e.f2.length k2) := blk_at M6.out 2 rfl
       have y0 : u3.cell? ⟨b6, 0, none⟩ = some (.int .i64 e.f0) := blk_at M7.out 0 rfl
       have y1 : u3.cell? ⟨b6, 1, none⟩ = some (.slice A4 e.f1.length c4) := blk_at M7.out 1 rfl
       have y2 : u3.cell? ⟨b6, 2, none⟩ = some (.slice B4 e.f2.length k4) := blk_at M7.out 2 rfl
       clear hb a0 a1 a2 x0 x1 x2)
    | (go_at_call_of 19 (.agg #[.int .i64 e.f0, .slice A4 e.f1.length c4, .slice B4 e.f2.length k4] : Value); refine (H19b.out _ HU3.out).mono ?_; rintro e u4 ⟨rfl, hb⟩
       have HU4 : Hid (Below v2.heap.size v2 u4) := HU3.out.trans (hb.out.mono HU3.out.size)
       clear hb))
  go_ret
  exact ⟨rfl, HB2.out.trans (HU4.out.mono HB2.out.size)⟩
end Go.Proofs.Ytpplnhefpcofoaa.PDeltaJoin
