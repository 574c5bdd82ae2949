/- DeltaDiffs, walked. -/
import Derived.Test.YtpplnhefpcofoaaZQS
import Derived.Test.YtpplnhefpcofoaaZQV
import Derived.Test.YtpplnhefpcofoaaZCT
import Derived.Test.YtpplnhefpcofoaaZWA
namespace Go.Proofs.Ytpplnhefpcofoaa.PDeltaJoin
open Go.RowKit Go.Proofs.YtpplnhefpcofoaaW.PrintWords Go.Proofs.YtpplnhefpcofoaaW.PrintLast
set_option linter.unusedVariables false
set_option linter.unusedSimpArgs false

def Law5 (w : World) (e : Ending) (w' : World) : Prop := e = .returned (.bool true) ∧ Below w.heap.size w w'
/-- A state, answered in rows of its own. -/
def StR (s : S24) (w : World) (e : Ending) (w' : World) : Prop := ∃ A c, e = .returned (.agg #[.int .i64 s.f0, .slice A s.f1.length c]) ∧ Hid (Kd.R k63 63 w' w.heap.size (fun _ => True) (.slice A s.f1.length c) s.f1) ∧ Hid (Below w.heap.size w w')
theorem copyS12 (s : S24) (A : Option Addr) (c : Nat) (w : World) (hA : Kd.C k63 w A s.f1.length s.f1) (hc : s.f1.length ≤ c) (hp : partsC s.f1 ≤ 100000) : Calls Try.prog 12 #[.agg #[.int .i64 s.f0, .slice A s.f1.length c]] w fun e w' => StR s w e w' := by
  obtain ⟨K, hK⟩ := state_some s.f0 s.f1 hp
  refine (eddyref8_State.calls K s.f0 A c s.f1 s.f0 s.f1 w hA hc hK).mono ?_
  rintro e w' ⟨v, rfl, hr, hb⟩
  obtain ⟨A', c', rfl⟩ := Kd.R_slice hr
  exact ⟨A', c', rfl, Lib.hid hr, Lib.hid hb⟩
def DAv (z : S27) (m : Int) (w : World) (e : Ending) (w' : World) : Prop := ∃ A c B k, e = .returned (.tuple #[.agg #[.int .i64 z.f0, .slice A z.f1.length c, .slice B z.f2.length k], .int .i64 m]) ∧ Hid (Kd.R k63 63 w' w.heap.size (fun _ => True) (.slice A z.f1.length c) z.f1) ∧ Hid (Kd.R Kd.string 9 w' w.heap.size (fun _ => True) (.slice B z.f2.length k) z.f2) ∧ Hid (Below w.heap.size w w')
def DAv0 (z : S27) (m : Int) (w : World) (e : Ending) (w' : World) : Prop := ∃ vs vg, e = .returned (.tuple #[.agg #[.int .i64 z.f0, vs, vg], .int .i64 m]) ∧ Hid (Kd.R k63 63 w' w.heap.size (fun _ => True) vs z.f1) ∧ Hid (Kd.R Kd.string 9 w' w.heap.size (fun _ => True) vg z.f2) ∧ Hid (Below w.heap.size w w')
theorem DAv0.lit {z : S27} {m : Int} {w : World} {e : Ending} {w' : World} (h : DAv0 z m w e w') : DAv z m w e w' := by
  obtain ⟨vs, vg, rfl, hs, hg, hb⟩ := h
  obtain ⟨A, c, rfl⟩ := Kd.R_slice hs.out
  obtain ⟨B, k, rfl⟩ := Kd.R_slice hg.out
  exact ⟨A, c, B, k, rfl, hs, hg, hb⟩
theorem litT2 (a b : S24) (A1 A2 : Option Addr) (c1 c2 : Nat) (w : World) (q : Nat) (h1 : Kd.C k63 w A1 a.f1.length a.f1) (h2 : Kd.C k63 w A2 b.f1.length b.f1) (l1 : a.f1.length ≤ c1) (l2 : b.f1.length ≤ c2) (hb : w.heap[q]? = some (.cells #[.int .i64 a.f0, .slice A1 a.f1.length c1, .int .i64 b.f0, .slice A2 b.f1.length c2] 24 (0, 0))) : Kd.C k24 w (some ⟨q, 0, none⟩) [a, b].length [a, b] := by
  refine lit_C k24 (inner := [.int .i64 a.f0, .slice A1 a.f1.length c1, .int .i64 b.f0, .slice A2 b.f1.length c2]) ?_ hb (by simp)
  have r1 := Reps.snoc (Reps.none _ k24.sz) (k24_mk w a l1 h1) rfl
  exact Reps.snoc r1 (k24_mk w b l2 h2) rfl
set_option maxRecDepth 100000 in
set_option maxHeartbeats 16000000 in
theorem deltaDiffs_walk (a b : S24) (A1 A2 : Option Addr) (c1 c2 : Nat) (w : World) (h0 : Kd.C k63 w A1 a.f1.length a.f1) (h1 : Kd.C k63 w A2 b.f1.length b.f1) (l0 : a.f1.length ≤ c1) (l1 : b.f1.length ≤ c2) (ra : ∀ c ∈ a.f1, ∀ z ∈ c.f1, InR z) (rb : ∀ c ∈ b.f1, ∀ z ∈ c.f1, InR z) :
    Calls Try.prog 5 #[.agg #[.int .i64 a.f0, .slice A1 a.f1.length c1], .agg #[.int .i64 b.f0, .slice A2 b.f1.length c2]] w fun e' w' => Law5 w e' w' := by
  have H0 : Hid (((w.alloc (.cells #[.int .i64 a.f0, .slice A1 a.f1.length c1] 24)).alloc (.cells #[.int .i64 b.f0, .slice A2 b.f1.length c2] 24)).heap[w.heap.size]? = some (.cells #[.int .i64 a.f0, .slice A1 a.f1.length c1] 24 (0, 0))) := Lib.hid (blk_alloc (blk_new w _) _)
  have H1 : Hid (((w.alloc (.cells #[.int .i64 a.f0, .slice A1 a.f1.length c1] 24)).alloc (.cells #[.int .i64 b.f0, .slice A2 b.f1.length c2] 24)).heap[w.heap.size + 1]? = some (.cells #[.int .i64 b.f0, .slice A2 b.f1.length c2] 24 (0, 0))) := Lib.hid (by
    have := blk_new (w.alloc (.cells #[.int .i64 a.f0, .slice A1 a.f1.length c1] 24)) (.cells #[.int .i64 b.f0, .slice A2 b.f1.length c2] 24)
    rw [World.size_alloc] at this
    exact this)
  have HB : Hid (Below w.heap.size w ((w.alloc (.cells #[.int .i64 a.f0, .slice A1 a.f1.length c1] 24)).alloc (.cells #[.int .i64 b.f0, .slice A2 b.f1.length c2] 24))) := Lib.hid (((Below.refl _ w).alloc (Nat.le_refl _) _).alloc (by simp) _)
  have HF : Hid (∀ W, Below w.heap.size w W → Calls Try.prog 10 #[.slice (some ⟨W.heap.size, 0, none⟩) 2 2] (W.alloc (.cells #[.int .i64 a.f0, .slice A1 a.f1.length c1, .int .i64 b.f0, .slice A2 b.f1.length c2] 24)) fun e' w' => ∃ b0, e' = .returned (.bool b0) ∧ Hid (b0 = true → partsC a.f1 ≤ 10000 ∧ partsC b.f1 ≤ 10000) ∧ Hid (Below (W.alloc (.cells #[.int .i64 a.f0, .slice A1 a.f1.length c1, .int .i64 b.f0, .slice A2 b.f1.length c2] 24)).heap.size (W.alloc (.cells #[.int .i64 a.f0, .slice A1 a.f1.length c1, .int .i64 b.f0, .slice A2 b.f1.length c2] 24)) w')) := Lib.hid (fun W h => by
    have hb : Below w.heap.size w (W.alloc (.cells #[.int .i64 a.f0, .slice A1 a.f1.length c1, .int .i64 b.f0, .slice A2 b.f1.length c2] 24)) := h.alloc h.size _
    have := states10 [a, b] (some ⟨W.heap.size, 0, none⟩) 2 (W.alloc (.cells #[.int .i64 a.f0, .slice A1 a.f1.length c1, .int .i64 b.f0, .slice A2 b.f1.length c2] 24)) (litT2 a b A1 A2 c1 c2 _ _ (Kd.C_below h0 hb) (Kd.C_below h1 hb) l0 l1 (blk_new W _))
    refine this.mono ?_
    rintro e' w' ⟨b0, he, hs, h⟩
    exact ⟨b0, he, Lib.hid (fun e => by have := hs e; simp [partsT] at this; omega), h⟩)
  have Q0 := Lib.hid h0
  have Q1 := Lib.hid h1
  have HLL := Lib.hid (And.intro l0 l1)
  have HRa := Lib.hid ra
  have HRb := Lib.hid rb
  clear h0 h1 l0 l1 ra rb
  go_enter Try.func5, Try.ntmps5
  go_upto_region 1 with (fail)
  generalize ((w.alloc (.cells #[.int .i64 a.f0, .slice A1 a.f1.length c1] 24)).alloc (.cells #[.int .i64 b.f0, .slice A2 b.f1.length c2] 24)) = wa at *
  obtain ⟨g, hg⟩ : ∃ g, g = w.heap.size := ⟨_, rfl⟩
  rw [← hg] at H0 H1 ⊢
  clear hg
  have x0 : wa.cell? ⟨g, 0, none⟩ = some (.int .i64 a.f0) := blk_at H0.out 0 rfl
  have x1 : wa.cell? ⟨g, 1, none⟩ = some (.slice A1 a.f1.length c1) := blk_at H0.out 1 rfl
  have y0 : wa.cell? ⟨(g + 1), 0, none⟩ = some (.int .i64 b.f0) := blk_at H1.out 0 rfl
  have y1 : wa.cell? ⟨(g + 1), 1, none⟩ = some (.slice A2 b.f1.length c2) := blk_at H1.out 1 rfl
  have HBL : Hid (Below wa.heap.size wa (wa.alloc (.cells #[.int .i64 a.f0, .slice A1 a.f1.length c1, .int .i64 b.f0, .slice A2 b.f1.length c2] 24))) := Lib.hid ((Below.refl _ wa).alloc (Nat.le_refl _) _)
  have HC := Lib.hid (HF.out wa HB.out)
  go_upto_region 3 with (go_at_call 10; refine HC.out.mono ?_; rintro e' w1 ⟨bl, rfl, hps, hb1⟩
                         have HPS := hps
                         have HW1 : Hid (Below wa.heap.size wa w1) := HBL.out.trans (hb1.out.mono HBL.out.size)
                         clear hb1 x0 x1 y0 y1 hps
                         cases bl)
  · go_ret
    exact ⟨rfl, HB.out.trans (HW1.out.mono HB.out.size)⟩
  obtain ⟨pA, pB⟩ := HPS.out trivial
  have HBw : Hid (Below w.heap.size w w1) := HB.out.trans (HW1.out.mono HB.out.size)
  replace H0 := Lib.hid (blk_below H0.out HW1.out)
  replace H1 := Lib.hid (blk_below H1.out HW1.out)
  clear HPS HC HBL HW1 HB HF
  obtain ⟨wb, hwb⟩ : ∃ W, W = w1 := ⟨_, rfl⟩
  rw [← hwb] at H0 H1 HBw ⊢
  clear hwb
  have HCA : Hid (∀ W, Below w.heap.size w W → Calls Try.prog 12 #[.agg #[.int .i64 a.f0, .slice A1 a.f1.length c1]] W fun e' w' => StR a W e' w') := Lib.hid (fun W h => copyS12 a A1 c1 W (Kd.C_below Q0.out h) HLL.out.1 (by omega))
  have HCB : Hid (∀ W, Below w.heap.size w W → Calls Try.prog 12 #[.agg #[.int .i64 b.f0, .slice A2 b.f1.length c2]] W fun e' w' => StR b W e' w') := Lib.hid (fun W h => copyS12 b A2 c2 W (Kd.C_below Q1.out h) HLL.out.2 (by omega))
  have HSt : Hid (∀ w', Below wb.heap.size wb w' → (w'.cell? ⟨g, 0, none⟩ = some (.int .i64 a.f0) ∧ w'.cell? ⟨g, 1, none⟩ = some (.slice A1 a.f1.length c1) ∧ w'.cell? ⟨(g + 1), 0, none⟩ = some (.int .i64 b.f0) ∧ w'.cell? ⟨(g + 1), 1, none⟩ = some (.slice A2 b.f1.length c2))) := Lib.hid (fun W h => ⟨blk_at (blk_below H0.out h) 0 rfl, blk_at (blk_below H0.out h) 1 rfl, blk_at (blk_below H1.out h) 0 rfl, blk_at (blk_below H1.out h) 1 rfl⟩)
  go_cut [5, 6] (fun va vb wx => ∃ b5 b6 A3 c3 A4 c4, va = .pointer (some ⟨b5, 0, none⟩) ∧ vb = .pointer (some ⟨b6, 0, none⟩) ∧ Hid (wx.heap[b5]? = some (.cells #[.int .i64 a.f0, .slice A3 a.f1.length c3] 24 (0, 0))) ∧ Hid (wx.heap[b6]? = some (.cells #[.int .i64 b.f0, .slice A4 b.f1.length c4] 24 (0, 0))) ∧ Hid (Kd.R k63 63 wx wb.heap.size (fun _ => True) (.slice A3 a.f1.length c3) a.f1) ∧ Hid (Kd.R k63 63 wx wb.heap.size (fun _ => True) (.slice A4 b.f1.length c4) b.f1) ∧ Hid (Below wb.heap.size wb wx))
  case first =>
    refine start_ (n := 8) (S := (fun w' => w'.cell? ⟨g, 0, none⟩ = some (.int .i64 a.f0) ∧ w'.cell? ⟨g, 1, none⟩ = some (.slice A1 a.f1.length c1) ∧ w'.cell? ⟨(g + 1), 0, none⟩ = some (.int .i64 b.f0) ∧ w'.cell? ⟨(g + 1), 1, none⟩ = some (.slice A2 b.f1.length c2))) (ds := []) #[false, false, false, false, false, false, false, false] (by kernel_rfl) rfl rfl (HSt.out _ ((Below.refl _ _).drew)) (fun hHeld => ?_)
    have HV0 : Hid (Below wb.heap.size wb wb.drew) := (Below.refl _ _).drew
    generalize wb.drew = V0 at hHeld HV0 ⊢
    refine take_ (i := 0) (N := some 21) (v := ?_) (a' := ?_) #[true, false, false, false, false, false, false, false] rfl rfl (by kernel_rfl) (fun _ _ _ h => h) (Or.inl ⟨by rfl, ?_⟩) hHeld ?_ ?_
    rotate_left
    · rintro w' ⟨s0, s1, s2, s3⟩
      go_simp
      with_reducible rfl
    rotate_left
    · go_simp
      rfl
    refine take_ (i := 2) (N := some 23) (v := ?_) (a' := ?_) #[true, false, true, false, false, false, false, false] rfl rfl (by kernel_rfl) (fun _ _ _ h => h) (Or.inl ⟨by rfl, ?_⟩) hHeld ?_ ?_
    rotate_left
    · rintro w' ⟨s0, s1, s2, s3⟩
      go_simp
      with_reducible rfl
    rotate_left
    · go_simp
      rfl
    refine three_ (i := 1) (j := 4) (k := 5) (Ni := some 22) (Nj := some 5) (Nk := some 6) #[true, true, true, false, false, false, false, false] #[true, false, true, false, true, false, false, false] #[true, false, true, false, false, true, false, false] rfl rfl rfl rfl rfl rfl (by kernel_rfl) (by decide) (by decide) (by decide) (fun K hK => ?_) (fun K hK => ?_) (fun K hK => ?_)
    · refine goes_ Try.func12 (by kernel_rfl) rfl #[.agg #[.int .i64 a.f0, .slice A1 a.f1.length c1]] (by rfl) rfl rfl (by simp only [List.map_toArray, List.map_cons, List.map_nil]; rfl) ?_
      refine ((HCA.out V0 (HBw.out.trans (HV0.out.mono HBw.out.size)))).mono ?_
      rintro e' V1 ⟨A3, c3, rfl, R3, hb⟩
      refine ⟨_, rfl, ?_⟩
      have HV1 : Hid (Below wb.heap.size wb V1) := HV0.out.trans (hb.out.mono HV0.out.size)
      replace R3 := Lib.hid (Kd.R_lower R3.out HV0.out.size)
      refine hK.out _ _ (HSt.out _ HV1.out) (fun hHeld => ?_)
      clear hK K hb HV0
      refine norm_ (a' := ?_) ?_ ?_
      rotate_left
      · show Act.put _ (some 22) _ = _
        go_simp
        rfl
      refine three_ (i := 3) (j := 4) (k := 5) (Ni := some 24) (Nj := some 5) (Nk := some 6) #[true, true, true, true, false, false, false, false] #[true, true, true, false, true, false, false, false] #[true, true, true, false, false, true, false, false] rfl rfl rfl rfl rfl rfl (by kernel_rfl) (by decide) (by decide) (by decide) (fun K hK => ?_) (fun K hK => ?_) (fun K hK => ?_)
      · refine goes_ Try.func12 (by kernel_rfl) rfl #[.agg #[.int .i64 b.f0, .slice A2 b.f1.length c2]] (by rfl) rfl rfl (by simp only [List.map_toArray, List.map_cons, List.map_nil]; rfl) ?_
        refine ((HCB.out V1 (HBw.out.trans (HV1.out.mono HBw.out.size)))).mono ?_
        rintro e' V2 ⟨A4, c4, rfl, R4, hb⟩
        refine ⟨_, rfl, ?_⟩
        replace R3 := Lib.hid (Kd.R_below R3.out hb.out)
        have HV2 : Hid (Below wb.heap.size wb V2) := HV1.out.trans (hb.out.mono HV1.out.size)
        replace R4 := Lib.hid (Kd.R_lower R4.out HV1.out.size)
        refine hK.out _ _ (HSt.out _ HV2.out) (fun hHeld => ?_)
        clear hK K hb HV1
        refine norm_ (a' := ?_) ?_ ?_
        rotate_left
        · show Act.put _ (some 24) _ = _
          go_simp
          rfl
        refine two_ (i := 4) (j := 5) (Ni := some 5) (Nj := some 6) #[true, true, true, true, true, false, false, false] #[true, true, true, true, false, true, false, false] rfl rfl rfl rfl (by kernel_rfl) (by decide) (by decide) (fun K hK => ?_) (fun K hK => ?_)
        · obtain ⟨b5, hnb⟩ : ∃ nb, nb = V2.heap.size := ⟨_, rfl⟩
          refine value_ (w1 := (V2.alloc (.cells #[.int .i64 0, .slice none 0 0] 24))) (v := .pointer (some ⟨b5, 0, none⟩)) (by rfl) rfl (by rw [hnb]; go_simp) ?_
          have hal : Hid (Below V2.heap.size V2 (V2.alloc (.cells #[.int .i64 0, .slice none 0 0] 24))) := Lib.hid ((Below.refl _ _).alloc (Nat.le_refl _) _)
          have H5 : Hid ((V2.alloc (.cells #[.int .i64 0, .slice none 0 0] 24)).heap[b5]? = some (.cells #[.int .i64 0, .slice none 0 0] 24 (0, 0))) := by rw [hnb]; exact Lib.hid (blk_new _ _)
          have gb5 : Hid (wb.heap.size ≤ b5) := by rw [hnb]; exact Lib.hid HV2.out.size
          clear hnb
          generalize (V2.alloc (.cells #[.int .i64 0, .slice none 0 0] 24)) = V3 at hal H5 ⊢
          replace R3 := Lib.hid (Kd.R_below R3.out hal.out)
          replace R4 := Lib.hid (Kd.R_below R4.out hal.out)
          have HV3 : Hid (Below wb.heap.size wb V3) := HV2.out.trans (hal.out.mono HV2.out.size)
          refine hK.out _ _ (HSt.out _ HV3.out) (fun hHeld => ?_)
          clear hK K hal HV2
          refine norm_ (a' := ?_) ?_ ?_
          rotate_left
          · show Act.put _ (some 5) _ = _
            go_simp
            rfl
          refine one_ (i := 5) (N := some 6) #[true, true, true, true, true, true, false, false] rfl rfl (by kernel_rfl) (by decide) (fun K hK => ?_)
          obtain ⟨b6, hnb⟩ : ∃ nb, nb = V3.heap.size := ⟨_, rfl⟩
          refine value_ (w1 := (V3.alloc (.cells #[.int .i64 0, .slice none 0 0] 24))) (v := .pointer (some ⟨b6, 0, none⟩)) (by rfl) rfl (by rw [hnb]; go_simp) ?_
          have hal : Hid (Below V3.heap.size V3 (V3.alloc (.cells #[.int .i64 0, .slice none 0 0] 24))) := Lib.hid ((Below.refl _ _).alloc (Nat.le_refl _) _)
          have H6 : Hid ((V3.alloc (.cells #[.int .i64 0, .slice none 0 0] 24)).heap[b6]? = some (.cells #[.int .i64 0, .slice none 0 0] 24 (0, 0))) := by rw [hnb]; exact Lib.hid (blk_new _ _)
          have gb6 : Hid (wb.heap.size ≤ b6) := by rw [hnb]; exact Lib.hid HV3.out.size
          have HNE : Hid (b5 ≠ b6) := Lib.hid (by have := blk_lt H5.out; omega)
          clear hnb
          generalize (V3.alloc (.cells #[.int .i64 0, .slice none 0 0] 24)) = V4 at hal H6 ⊢
          replace R3 := Lib.hid (Kd.R_below R3.out hal.out)
          replace R4 := Lib.hid (Kd.R_below R4.out hal.out)
          replace H5 := Lib.hid (blk_below H5.out hal.out)
          have HV4 : Hid (Below wb.heap.size wb V4) := HV3.out.trans (hal.out.mono HV3.out.size)
          refine hK.out _ _ (HSt.out _ HV4.out) (fun hHeld => ?_)
          clear hK K hal HV3
          refine norm_ (a' := ?_) ?_ ?_
          rotate_left
          · show Act.put _ (some 6) _ = _
            go_simp
            rfl
          refine one_ (i := 6) (N := none) #[true, true, true, true, true, true, true, false] rfl rfl (by kernel_rfl) (by decide) (fun K hK => ?_)
          have x0 : V4.cell? ⟨b5, 0, none⟩ = some (.int .i64 0) := blk_at H5.out 0 rfl
          have z0 : V4.frozen? ⟨b5, 0, none⟩ = false := blk_frozen H5.out 0
          have x1 : V4.cell? ⟨b5, 1, none⟩ = some (.slice none 0 0) := blk_at H5.out 1 rfl
          have z1 : V4.frozen? ⟨b5, 1, none⟩ = false := blk_frozen H5.out 1
          refine skip_ (w1 := ((V4.setCell ⟨b5, 0, none⟩ (.int .i64 a.f0)).setCell ⟨b5, 1, none⟩ (.slice A3 a.f1.length c3))) (by rfl) rfl (by go_simp) ?_
          replace R3 := Lib.hid (Kd.R_set (Kd.R_set R3.out H5.out (by decide) 0 (.int .i64 a.f0)) (blk_put H5.out 0 (.int .i64 a.f0) rfl) (by decide) 1 (.slice A3 a.f1.length c3))
          replace R4 := Lib.hid (Kd.R_set (Kd.R_set R4.out H5.out (by decide) 0 (.int .i64 a.f0)) (blk_put H5.out 0 (.int .i64 a.f0) rfl) (by decide) 1 (.slice A3 a.f1.length c3))
          replace H6 := Lib.hid (blk_far (blk_far H6.out (p := ⟨b5, 0, none⟩) HNE.out.symm (.int .i64 a.f0)) (p := ⟨b5, 1, none⟩) HNE.out.symm (.slice A3 a.f1.length c3))
          replace H5 := Lib.hid (blk_put (blk_put H5.out 0 (.int .i64 a.f0) rfl) 1 (.slice A3 a.f1.length c3) rfl)
          have HV5 : Hid (Below wb.heap.size wb ((V4.setCell ⟨b5, 0, none⟩ (.int .i64 a.f0)).setCell ⟨b5, 1, none⟩ (.slice A3 a.f1.length c3))) := Lib.hid ((HV4.out.setCell (p := ⟨b5, 0, none⟩) gb5.out _).setCell (p := ⟨b5, 1, none⟩) gb5.out _)
          refine hK.out _ _ (HSt.out _ HV5.out) (fun hHeld => ?_)
          clear hK K hHeld HV4 x0 z0 x1 z1
          generalize ((V4.setCell ⟨b5, 0, none⟩ (.int .i64 a.f0)).setCell ⟨b5, 1, none⟩ (.slice A3 a.f1.length c3)) = V5 at *
          refine one_ (i := 7) (N := none) #[true, true, true, true, true, true, true, true] rfl rfl (by kernel_rfl) (by decide) (fun K hK => ?_)
          have x0 : V5.cell? ⟨b6, 0, none⟩ = some (.int .i64 0) := blk_at H6.out 0 rfl
          have z0 : V5.frozen? ⟨b6, 0, none⟩ = false := blk_frozen H6.out 0
          have x1 : V5.cell? ⟨b6, 1, none⟩ = some (.slice none 0 0) := blk_at H6.out 1 rfl
          have z1 : V5.frozen? ⟨b6, 1, none⟩ = false := blk_frozen H6.out 1
          refine skip_ (w1 := ((V5.setCell ⟨b6, 0, none⟩ (.int .i64 b.f0)).setCell ⟨b6, 1, none⟩ (.slice A4 b.f1.length c4))) (by rfl) rfl (by go_simp) ?_
          replace R3 := Lib.hid (Kd.R_set (Kd.R_set R3.out H6.out (by decide) 0 (.int .i64 b.f0)) (blk_put H6.out 0 (.int .i64 b.f0) rfl) (by decide) 1 (.slice A4 b.f1.length c4))
          replace R4 := Lib.hid (Kd.R_set (Kd.R_set R4.out H6.out (by decide) 0 (.int .i64 b.f0)) (blk_put H6.out 0 (.int .i64 b.f0) rfl) (by decide) 1 (.slice A4 b.f1.length c4))
          replace H5 := Lib.hid (blk_far (blk_far H5.out (p := ⟨b6, 0, none⟩) HNE.out (.int .i64 b.f0)) (p := ⟨b6, 1, none⟩) HNE.out (.slice A4 b.f1.length c4))
          replace H6 := Lib.hid (blk_put (blk_put H6.out 0 (.int .i64 b.f0) rfl) 1 (.slice A4 b.f1.length c4) rfl)
          have HV6 : Hid (Below wb.heap.size wb ((V5.setCell ⟨b6, 0, none⟩ (.int .i64 b.f0)).setCell ⟨b6, 1, none⟩ (.slice A4 b.f1.length c4))) := Lib.hid ((HV5.out.setCell (p := ⟨b6, 0, none⟩) gb6.out _).setCell (p := ⟨b6, 1, none⟩) gb6.out _)
          refine hK.out _ _ (HSt.out _ HV6.out) (fun hHeld => ?_)
          clear hK K hHeld HV5 x0 z0 x1 z1
          generalize ((V5.setCell ⟨b6, 0, none⟩ (.int .i64 b.f0)).setCell ⟨b6, 1, none⟩ (.slice A4 b.f1.length c4)) = V6 at *
          refine done_ (by kernel_rfl) ?_
          go_wp2_with (fail)
          go_meet
          exact ⟨b5, b6, A3, c3, A4, c4, rfl, rfl, H5, H6, R3, R4, HV6⟩
        · obtain ⟨b6, hnb⟩ : ∃ nb, nb = V2.heap.size := ⟨_, rfl⟩
          refine value_ (w1 := (V2.alloc (.cells #[.int .i64 0, .slice none 0 0] 24))) (v := .pointer (some ⟨b6, 0, none⟩)) (by rfl) rfl (by rw [hnb]; go_simp) ?_
          have hal : Hid (Below V2.heap.size V2 (V2.alloc (.cells #[.int .i64 0, .slice none 0 0] 24))) := Lib.hid ((Below.refl _ _).alloc (Nat.le_refl _) _)
          have H6 : Hid ((V2.alloc (.cells #[.int .i64 0, .slice none 0 0] 24)).heap[b6]? = some (.cells #[.int .i64 0, .slice none 0 0] 24 (0, 0))) := by rw [hnb]; exact Lib.hid (blk_new _ _)
          have gb6 : Hid (wb.heap.size ≤ b6) := by rw [hnb]; exact Lib.hid HV2.out.size
          clear hnb
          generalize (V2.alloc (.cells #[.int .i64 0, .slice none 0 0] 24)) = V3 at hal H6 ⊢
          replace R3 := Lib.hid (Kd.R_below R3.out hal.out)
          replace R4 := Lib.hid (Kd.R_below R4.out hal.out)
          have HV3 : Hid (Below wb.heap.size wb V3) := HV2.out.trans (hal.out.mono HV2.out.size)
          refine hK.out _ _ (HSt.out _ HV3.out) (fun hHeld => ?_)
          clear hK K hal HV2
          refine norm_ (a' := ?_) ?_ ?_
          rotate_left
          · show Act.put _ (some 6) _ = _
            go_simp
            rfl
          refine one_ (i := 4) (N := some 5) #[true, true, true, true, true, true, false, false] rfl rfl (by kernel_rfl) (by decide) (fun K hK => ?_)
          obtain ⟨b5, hnb⟩ : ∃ nb, nb = V3.heap.size := ⟨_, rfl⟩
          refine value_ (w1 := (V3.alloc (.cells #[.int .i64 0, .slice none 0 0] 24))) (v := .pointer (some ⟨b5, 0, none⟩)) (by rfl) rfl (by rw [hnb]; go_simp) ?_
          have hal : Hid (Below V3.heap.size V3 (V3.alloc (.cells #[.int .i64 0, .slice none 0 0] 24))) := Lib.hid ((Below.refl _ _).alloc (Nat.le_refl _) _)
          have H5 : Hid ((V3.alloc (.cells #[.int .i64 0, .slice none 0 0] 24)).heap[b5]? = some (.cells #[.int .i64 0, .slice none 0 0] 24 (0, 0))) := by rw [hnb]; exact Lib.hid (blk_new _ _)
          have gb5 : Hid (wb.heap.size ≤ b5) := by rw [hnb]; exact Lib.hid HV3.out.size
          have HNE : Hid (b5 ≠ b6) := Lib.hid (by have := blk_lt H6.out; omega)
          clear hnb
          generalize (V3.alloc (.cells #[.int .i64 0, .slice none 0 0] 24)) = V4 at hal H5 ⊢
          replace R3 := Lib.hid (Kd.R_below R3.out hal.out)
          replace R4 := Lib.hid (Kd.R_below R4.out hal.out)
          replace H6 := Lib.hid (blk_below H6.out hal.out)
          have HV4 : Hid (Below wb.heap.size wb V4) := HV3.out.trans (hal.out.mono HV3.out.size)
          refine hK.out _ _ (HSt.out _ HV4.out) (fun hHeld => ?_)
          clear hK K hal HV3
          refine norm_ (a' := ?_) ?_ ?_
          rotate_left
          · show Act.put _ (some 5) _ = _
            go_simp
            rfl
          refine one_ (i := 6) (N := none) #[true, true, true, true, true, true, true, false] rfl rfl (by kernel_rfl) (by decide) (fun K hK => ?_)
          have x0 : V4.cell? ⟨b5, 0, none⟩ = some (.int .i64 0) := blk_at H5.out 0 rfl
          have z0 : V4.frozen? ⟨b5, 0, none⟩ = false := blk_frozen H5.out 0
          have x1 : V4.cell? ⟨b5, 1, none⟩ = some (.slice none 0 0) := blk_at H5.out 1 rfl
          have z1 : V4.frozen? ⟨b5, 1, none⟩ = false := blk_frozen H5.out 1
          refine skip_ (w1 := ((V4.setCell ⟨b5, 0, none⟩ (.int .i64 a.f0)).setCell ⟨b5, 1, none⟩ (.slice A3 a.f1.length c3))) (by rfl) rfl (by go_simp) ?_
          replace R3 := Lib.hid (Kd.R_set (Kd.R_set R3.out H5.out (by decide) 0 (.int .i64 a.f0)) (blk_put H5.out 0 (.int .i64 a.f0) rfl) (by decide) 1 (.slice A3 a.f1.length c3))
          replace R4 := Lib.hid (Kd.R_set (Kd.R_set R4.out H5.out (by decide) 0 (.int .i64 a.f0)) (blk_put H5.out 0 (.int .i64 a.f0) rfl) (by decide) 1 (.slice A3 a.f1.length c3))
          replace H6 := Lib.hid (blk_far (blk_far H6.out (p := ⟨b5, 0, none⟩) HNE.out.symm (.int .i64 a.f0)) (p := ⟨b5, 1, none⟩) HNE.out.symm (.slice A3 a.f1.length c3))
          replace H5 := Lib.hid (blk_put (blk_put H5.out 0 (.int .i64 a.f0) rfl) 1 (.slice A3 a.f1.length c3) rfl)
          have HV5 : Hid (Below wb.heap.size wb ((V4.setCell ⟨b5, 0, none⟩ (.int .i64 a.f0)).setCell ⟨b5, 1, none⟩ (.slice A3 a.f1.length c3))) := Lib.hid ((HV4.out.setCell (p := ⟨b5, 0, none⟩) gb5.out _).setCell (p := ⟨b5, 1, none⟩) gb5.out _)
          refine hK.out _ _ (HSt.out _ HV5.out) (fun hHeld => ?_)
          clear hK K hHeld HV4 x0 z0 x1 z1
          generalize ((V4.setCell ⟨b5, 0, none⟩ (.int .i64 a.f0)).setCell ⟨b5, 1, none⟩ (.slice A3 a.f1.length c3)) = V5 at *
          refine one_ (i := 7) (N := none) #[true, true, true, true, true, true, true, true] rfl rfl (by kernel_rfl) (by decide) (fun K hK => ?_)
          have x0 : V5.cell? ⟨b6, 0, none⟩ = some (.int .i64 0) := blk_at H6.out 0 rfl
          have z0 : V5.frozen? ⟨b6, 0, none⟩ = false := blk_frozen H6.out 0
          have x1 : V5.cell? ⟨b6, 1, none⟩ = some (.slice none 0 0) := blk_at H6.out 1 rfl
          have z1 : V5.frozen? ⟨b6, 1, none⟩ = false := blk_frozen H6.out 1
          refine skip_ (w1 := ((V5.setCell ⟨b6, 0, none⟩ (.int .i64 b.f0)).setCell ⟨b6, 1, none⟩ (.slice A4 b.f1.length c4))) (by rfl) rfl (by go_simp) ?_
          replace R3 := Lib.hid (Kd.R_set (Kd.R_set R3.out H6.out (by decide) 0 (.int .i64 b.f0)) (blk_put H6.out 0 (.int .i64 b.f0) rfl) (by decide) 1 (.slice A4 b.f1.length c4))
          replace R4 := Lib.hid (Kd.R_set (Kd.R_set R4.out H6.out (by decide) 0 (.int .i64 b.f0)) (blk_put H6.out 0 (.int .i64 b.f0) rfl) (by decide) 1 (.slice A4 b.f1.length c4))
          replace H5 := Lib.hid (blk_far (blk_far H5.out (p := ⟨b6, 0, none⟩) HNE.out (.int .i64 b.f0)) (p := ⟨b6, 1, none⟩) HNE.out (.slice A4 b.f1.length c4))
          replace H6 := Lib.hid (blk_put (blk_put H6.out 0 (.int .i64 b.f0) rfl) 1 (.slice A4 b.f1.length c4) rfl)
          have HV6 : Hid (Below wb.heap.size wb ((V5.setCell ⟨b6, 0, none⟩ (.int .i64 b.f0)).setCell ⟨b6, 1, none⟩ (.slice A4 b.f1.length c4))) := Lib.hid ((HV5.out.setCell (p := ⟨b6, 0, none⟩) gb6.out _).setCell (p := ⟨b6, 1, none⟩) gb6.out _)
          refine hK.out _ _ (HSt.out _ HV6.out) (fun hHeld => ?_)
          clear hK K hHeld HV5 x0 z0 x1 z1
          generalize ((V5.setCell ⟨b6, 0, none⟩ (.int .i64 b.f0)).setCell ⟨b6, 1, none⟩ (.slice A4 b.f1.length c4)) = V6 at *
          refine done_ (by kernel_rfl) ?_
          go_wp2_with (fail)
          go_meet
          exact ⟨b5, b6, A3, c3, A4, c4, rfl, rfl, H5, H6, R3, R4, HV6⟩
      · obtain ⟨b5, hnb⟩ : ∃ nb, nb = V1.heap.size := ⟨_, rfl⟩
        refine value_ (w1 := (V1.alloc (.cells #[.int .i64 0, .slice none 0 0] 24))) (v := .pointer (some ⟨b5, 0, none⟩)) (by rfl) rfl (by rw [hnb]; go_simp) ?_
        have hal : Hid (Below V1.heap.size V1 (V1.alloc (.cells #[.int .i64 0, .slice none 0 0] 24))) := Lib.hid ((Below.refl _ _).alloc (Nat.le_refl _) _)
        have H5 : Hid ((V1.alloc (.cells #[.int .i64 0, .slice none 0 0] 24)).heap[b5]? = some (.cells #[.int .i64 0, .slice none 0 0] 24 (0, 0))) := by rw [hnb]; exact Lib.hid (blk_new _ _)
        have gb5 : Hid (wb.heap.size ≤ b5) := by rw [hnb]; exact Lib.hid HV1.out.size
        clear hnb
        generalize (V1.alloc (.cells #[.int .i64 0, .slice none 0 0] 24)) = V2 at hal H5 ⊢
        replace R3 := Lib.hid (Kd.R_below R3.out hal.out)
        have HV2 : Hid (Below wb.heap.size wb V2) := HV1.out.trans (hal.out.mono HV1.out.size)
        refine hK.out _ _ (HSt.out _ HV2.out) (fun hHeld => ?_)
        clear hK K hal HV1
        refine norm_ (a' := ?_) ?_ ?_
        rotate_left
        · show Act.put _ (some 5) _ = _
          go_simp
          rfl
        refine two_ (i := 3) (j := 5) (Ni := some 24) (Nj := some 6) #[true, true, true, true, true, false, false, false] #[true, true, true, false, true, true, false, false] rfl rfl rfl rfl (by kernel_rfl) (by decide) (by decide) (fun K hK => ?_) (fun K hK => ?_)
        · refine goes_ Try.func12 (by kernel_rfl) rfl #[.agg #[.int .i64 b.f0, .slice A2 b.f1.length c2]] (by rfl) rfl rfl (by simp only [List.map_toArray, List.map_cons, List.map_nil]; rfl) ?_
          refine ((HCB.out V2 (HBw.out.trans (HV2.out.mono HBw.out.size)))).mono ?_
          rintro e' V3 ⟨A4, c4, rfl, R4, hb⟩
          refine ⟨_, rfl, ?_⟩
          replace R3 := Lib.hid (Kd.R_below R3.out hb.out)
          replace H5 := Lib.hid (blk_below H5.out hb.out)
          have HV3 : Hid (Below wb.heap.size wb V3) := HV2.out.trans (hb.out.mono HV2.out.size)
          replace R4 := Lib.hid (Kd.R_lower R4.out HV2.out.size)
          refine hK.out _ _ (HSt.out _ HV3.out) (fun hHeld => ?_)
          clear hK K hb HV2
          refine norm_ (a' := ?_) ?_ ?_
          rotate_left
          · show Act.put _ (some 24) _ = _
            go_simp
            rfl
          refine one_ (i := 5) (N := some 6) #[true, true, true, true, true, true, false, false] rfl rfl (by kernel_rfl) (by decide) (fun K hK => ?_)
          obtain ⟨b6, hnb⟩ : ∃ nb, nb = V3.heap.size := ⟨_, rfl⟩
          refine value_ (w1 := (V3.alloc (.cells #[.int .i64 0, .slice none 0 0] 24))) (v := .pointer (some ⟨b6, 0, none⟩)) (by rfl) rfl (by rw [hnb]; go_simp) ?_
          have hal : Hid (Below V3.heap.size V3 (V3.alloc (.cells #[.int .i64 0, .slice none 0 0] 24))) := Lib.hid ((Below.refl _ _).alloc (Nat.le_refl _) _)
          have H6 : Hid ((V3.alloc (.cells #[.int .i64 0, .slice none 0 0] 24)).heap[b6]? = some (.cells #[.int .i64 0, .slice none 0 0] 24 (0, 0))) := by rw [hnb]; exact Lib.hid (blk_new _ _)
          have gb6 : Hid (wb.heap.size ≤ b6) := by rw [hnb]; exact Lib.hid HV3.out.size
          have HNE : Hid (b5 ≠ b6) := Lib.hid (by have := blk_lt H5.out; omega)
          clear hnb
          generalize (V3.alloc (.cells #[.int .i64 0, .slice none 0 0] 24)) = V4 at hal H6 ⊢
          replace R3 := Lib.hid (Kd.R_below R3.out hal.out)
          replace R4 := Lib.hid (Kd.R_below R4.out hal.out)
          replace H5 := Lib.hid (blk_below H5.out hal.out)
          have HV4 : Hid (Below wb.heap.size wb V4) := HV3.out.trans (hal.out.mono HV3.out.size)
          refine hK.out _ _ (HSt.out _ HV4.out) (fun hHeld => ?_)
          clear hK K hal HV3
          refine norm_ (a' := ?_) ?_ ?_
          rotate_left
          · show Act.put _ (some 6) _ = _
            go_simp
            rfl
          refine one_ (i := 6) (N := none) #[true, true, true, true, true, true, true, false] rfl rfl (by kernel_rfl) (by decide) (fun K hK => ?_)
          have x0 : V4.cell? ⟨b5, 0, none⟩ = some (.int .i64 0) := blk_at H5.out 0 rfl
          have z0 : V4.frozen? ⟨b5, 0, none⟩ = false := blk_frozen H5.out 0
          have x1 : V4.cell? ⟨b5, 1, none⟩ = some (.slice none 0 0) := blk_at H5.out 1 rfl
          have z1 : V4.frozen? ⟨b5, 1, none⟩ = false := blk_frozen H5.out 1
          refine skip_ (w1 := ((V4.setCell ⟨b5, 0, none⟩ (.int .i64 a.f0)).setCell ⟨b5, 1, none⟩ (.slice A3 a.f1.length c3))) (by rfl) rfl (by go_simp) ?_
          replace R3 := Lib.hid (Kd.R_set (Kd.R_set R3.out H5.out (by decide) 0 (.int .i64 a.f0)) (blk_put H5.out 0 (.int .i64 a.f0) rfl) (by decide) 1 (.slice A3 a.f1.length c3))
          replace R4 := Lib.hid (Kd.R_set (Kd.R_set R4.out H5.out (by decide) 0 (.int .i64 a.f0)) (blk_put H5.out 0 (.int .i64 a.f0) rfl) (by decide) 1 (.slice A3 a.f1.length c3))
          replace H6 := Lib.hid (blk_far (blk_far H6.out (p := ⟨b5, 0, none⟩) HNE.out.symm (.int .i64 a.f0)) (p := ⟨b5, 1, none⟩) HNE.out.symm (.slice A3 a.f1.length c3))
          replace H5 := Lib.hid (blk_put (blk_put H5.out 0 (.int .i64 a.f0) rfl) 1 (.slice A3 a.f1.length c3) rfl)
          have HV5 : Hid (Below wb.heap.size wb ((V4.setCell ⟨b5, 0, none⟩ (.int .i64 a.f0)).setCell ⟨b5, 1, none⟩ (.slice A3 a.f1.length c3))) := Lib.hid ((HV4.out.setCell (p := ⟨b5, 0, none⟩) gb5.out _).setCell (p := ⟨b5, 1, none⟩) gb5.out _)
          refine hK.out _ _ (HSt.out _ HV5.out) (fun hHeld => ?_)
          clear hK K hHeld HV4 x0 z0 x1 z1
          generalize ((V4.setCell ⟨b5, 0, none⟩ (.int .i64 a.f0)).setCell ⟨b5, 1, none⟩ (.slice A3 a.f1.length c3)) = V5 at *
          refine one_ (i := 7) (N := none) #[true, true, true, true, true, true, true, true] rfl rfl (by kernel_rfl) (by decide) (fun K hK => ?_)
          have x0 : V5.cell? ⟨b6, 0, none⟩ = some (.int .i64 0) := blk_at H6.out 0 rfl
          have z0 : V5.frozen? ⟨b6, 0, none⟩ = false := blk_frozen H6.out 0
          have x1 : V5.cell? ⟨b6, 1, none⟩ = some (.slice none 0 0) := blk_at H6.out 1 rfl
          have z1 : V5.frozen? ⟨b6, 1, none⟩ = false := blk_frozen H6.out 1
          refine skip_ (w1 := ((V5.setCell ⟨b6, 0, none⟩ (.int .i64 b.f0)).setCell ⟨b6, 1, none⟩ (.slice A4 b.f1.length c4))) (by rfl) rfl (by go_simp) ?_
          replace R3 := Lib.hid (Kd.R_set (Kd.R_set R3.out H6.out (by decide) 0 (.int .i64 b.f0)) (blk_put H6.out 0 (.int .i64 b.f0) rfl) (by decide) 1 (.slice A4 b.f1.length c4))
          replace R4 := Lib.hid (Kd.R_set (Kd.R_set R4.out H6.out (by decide) 0 (.int .i64 b.f0)) (blk_put H6.out 0 (.int .i64 b.f0) rfl) (by decide) 1 (.slice A4 b.f1.length c4))
          replace H5 := Lib.hid (blk_far (blk_far H5.out (p := ⟨b6, 0, none⟩) HNE.out (.int .i64 b.f0)) (p := ⟨b6, 1, none⟩) HNE.out (.slice A4 b.f1.length c4))
          replace H6 := Lib.hid (blk_put (blk_put H6.out 0 (.int .i64 b.f0) rfl) 1 (.slice A4 b.f1.length c4) rfl)
          have HV6 : Hid (Below wb.heap.size wb ((V5.setCell ⟨b6, 0, none⟩ (.int .i64 b.f0)).setCell ⟨b6, 1, none⟩ (.slice A4 b.f1.length c4))) := Lib.hid ((HV5.out.setCell (p := ⟨b6, 0, none⟩) gb6.out _).setCell (p := ⟨b6, 1, none⟩) gb6.out _)
          refine hK.out _ _ (HSt.out _ HV6.out) (fun hHeld => ?_)
          clear hK K hHeld HV5 x0 z0 x1 z1
          generalize ((V5.setCell ⟨b6, 0, none⟩ (.int .i64 b.f0)).setCell ⟨b6, 1, none⟩ (.slice A4 b.f1.length c4)) = V6 at *
          refine done_ (by kernel_rfl) ?_
          go_wp2_with (fail)
          go_meet
          exact ⟨b5, b6, A3, c3, A4, c4, rfl, rfl, H5, H6, R3, R4, HV6⟩
        · obtain ⟨b6, hnb⟩ : ∃ nb, nb = V2.heap.size := ⟨_, rfl⟩
          refine value_ (w1 := (V2.alloc (.cells #[.int .i64 0, .slice none 0 0] 24))) (v := .pointer (some ⟨b6, 0, none⟩)) (by rfl) rfl (by rw [hnb]; go_simp) ?_
          have hal : Hid (Below V2.heap.size V2 (V2.alloc (.cells #[.int .i64 0, .slice none 0 0] 24))) := Lib.hid ((Below.refl _ _).alloc (Nat.le_refl _) _)
          have H6 : Hid ((V2.alloc (.cells #[.int .i64 0, .slice none 0 0] 24)).heap[b6]? = some (.cells #[.int .i64 0, .slice none 0 0] 24 (0, 0))) := by rw [hnb]; exact Lib.hid (blk_new _ _)
          have gb6 : Hid (wb.heap.size ≤ b6) := by rw [hnb]; exact Lib.hid HV2.out.size
          have HNE : Hid (b5 ≠ b6) := Lib.hid (by have := blk_lt H5.out; omega)
          clear hnb
          generalize (V2.alloc (.cells #[.int .i64 0, .slice none 0 0] 24)) = V3 at hal H6 ⊢
          replace R3 := Lib.hid (Kd.R_below R3.out hal.out)
          replace H5 := Lib.hid (blk_below H5.out hal.out)
          have HV3 : Hid (Below wb.heap.size wb V3) := HV2.out.trans (hal.out.mono HV2.out.size)
          refine hK.out _ _ (HSt.out _ HV3.out) (fun hHeld => ?_)
          clear hK K hal HV2
          refine norm_ (a' := ?_) ?_ ?_
          rotate_left
          · show Act.put _ (some 6) _ = _
            go_simp
            rfl
          refine one_ (i := 3) (N := some 24) #[true, true, true, true, true, true, false, false] rfl rfl (by kernel_rfl) (by decide) (fun K hK => ?_)
          refine goes_ Try.func12 (by kernel_rfl) rfl #[.agg #[.int .i64 b.f0, .slice A2 b.f1.length c2]] (by rfl) rfl rfl (by simp only [List.map_toArray, List.map_cons, List.map_nil]; rfl) ?_
          refine ((HCB.out V3 (HBw.out.trans (HV3.out.mono HBw.out.size)))).mono ?_
          rintro e' V4 ⟨A4, c4, rfl, R4, hb⟩
          refine ⟨_, rfl, ?_⟩
          replace R3 := Lib.hid (Kd.R_below R3.out hb.out)
          replace H5 := Lib.hid (blk_below H5.out hb.out)
          replace H6 := Lib.hid (blk_below H6.out hb.out)
          have HV4 : Hid (Below wb.heap.size wb V4) := HV3.out.trans (hb.out.mono HV3.out.size)
          replace R4 := Lib.hid (Kd.R_lower R4.out HV3.out.size)
          refine hK.out _ _ (HSt.out _ HV4.out) (fun hHeld => ?_)
          clear hK K hb HV3
          refine norm_ (a' := ?_) ?_ ?_
          rotate_left
          · show Act.put _ (some 24) _ = _
            go_simp
            rfl
          refine one_ (i := 6) (N := none) #[true, true, true, true, true, true, true, false] rfl rfl (by kernel_rfl) (by decide) (fun K hK => ?_)
          have x0 : V4.cell? ⟨b5, 0, none⟩ = some (.int .i64 0) := blk_at H5.out 0 rfl
          have z0 : V4.frozen? ⟨b5, 0, none⟩ = false := blk_frozen H5.out 0
          have x1 : V4.cell? ⟨b5, 1, none⟩ = some (.slice none 0 0) := blk_at H5.out 1 rfl
          have z1 : V4.frozen? ⟨b5, 1, none⟩ = false := blk_frozen H5.out 1
          refine skip_ (w1 := ((V4.setCell ⟨b5, 0, none⟩ (.int .i64 a.f0)).setCell ⟨b5, 1, none⟩ (.slice A3 a.f1.length c3))) (by rfl) rfl (by go_simp) ?_
          replace R3 := Lib.hid (Kd.R_set (Kd.R_set R3.out H5.out (by decide) 0 (.int .i64 a.f0)) (blk_put H5.out 0 (.int .i64 a.f0) rfl) (by decide) 1 (.slice A3 a.f1.length c3))
          replace R4 := Lib.hid (Kd.R_set (Kd.R_set R4.out H5.out (by decide) 0 (.int .i64 a.f0)) (blk_put H5.out 0 (.int .i64 a.f0) rfl) (by decide) 1 (.slice A3 a.f1.length c3))
          replace H6 := Lib.hid (blk_far (blk_far H6.out (p := ⟨b5, 0, none⟩) HNE.out.symm (.int .i64 a.f0)) (p := ⟨b5, 1, none⟩) HNE.out.symm (.slice A3 a.f1.length c3))
          replace H5 := Lib.hid (blk_put (blk_put H5.out 0 (.int .i64 a.f0) rfl) 1 (.slice A3 a.f1.length c3) rfl)
          have HV5 : Hid (Below wb.heap.size wb ((V4.setCell ⟨b5, 0, none⟩ (.int .i64 a.f0)).setCell ⟨b5, 1, none⟩ (.slice A3 a.f1.length c3))) := Lib.hid ((HV4.out.setCell (p := ⟨b5, 0, none⟩) gb5.out _).setCell (p := ⟨b5, 1, none⟩) gb5.out _)
          refine hK.out _ _ (HSt.out _ HV5.out) (fun hHeld => ?_)
          clear hK K hHeld HV4 x0 z0 x1 z1
          generalize ((V4.setCell ⟨b5, 0, none⟩ (.int .i64 a.f0)).setCell ⟨b5, 1, none⟩ (.slice A3 a.f1.length c3)) = V5 at *
          refine one_ (i := 7) (N := none) #[true, true, true, true, true, true, true, true] rfl rfl (by kernel_rfl) (by decide) (fun K hK => ?_)
          have x0 : V5.cell? ⟨b6, 0, none⟩ = some (.int .i64 0) := blk_at H6.out 0 rfl
          have z0 : V5.frozen? ⟨b6, 0, none⟩ = false := blk_frozen H6.out 0
          have x1 : V5.cell? ⟨b6, 1, none⟩ = some (.slice none 0 0) := blk_at H6.out 1 rfl
          have z1 : V5.frozen? ⟨b6, 1, none⟩ = false := blk_frozen H6.out 1
          refine skip_ (w1 := ((V5.setCell ⟨b6, 0, none⟩ (.int .i64 b.f0)).setCell ⟨b6, 1, none⟩ (.slice A4 b.f1.length c4))) (by rfl) rfl (by go_simp) ?_
          replace R3 := Lib.hid (Kd.R_set (Kd.R_set R3.out H6.out (by decide) 0 (.int .i64 b.f0)) (blk_put H6.out 0 (.int .i64 b.f0) rfl) (by decide) 1 (.slice A4 b.f1.length c4))
          replace R4 := Lib.hid (Kd.R_set (Kd.R_set R4.out H6.out (by decide) 0 (.int .i64 b.f0)) (blk_put H6.out 0 (.int .i64 b.f0) rfl) (by decide) 1 (.slice A4 b.f1.length c4))
          replace H5 := Lib.hid (blk_far (blk_far H5.out (p := ⟨b6, 0, none⟩) HNE.out (.int .i64 b.f0)) (p := ⟨b6, 1, none⟩) HNE.out (.slice A4 b.f1.length c4))
          replace H6 := Lib.hid (blk_put (blk_put H6.out 0 (.int .i64 b.f0) rfl) 1 (.slice A4 b.f1.length c4) rfl)
          have HV6 : Hid (Below wb.heap.size wb ((V5.setCell ⟨b6, 0, none⟩ (.int .i64 b.f0)).setCell ⟨b6, 1, none⟩ (.slice A4 b.f1.length c4))) := Lib.hid ((HV5.out.setCell (p := ⟨b6, 0, none⟩) gb6.out _).setCell (p := ⟨b6, 1, none⟩) gb6.out _)
          refine hK.out _ _ (HSt.out _ HV6.out) (fun hHeld => ?_)
          clear hK K hHeld HV5 x0 z0 x1 z1
          generalize ((V5.setCell ⟨b6, 0, none⟩ (.int .i64 b.f0)).setCell ⟨b6, 1, none⟩ (.slice A4 b.f1.length c4)) = V6 at *
          refine done_ (by kernel_rfl) ?_
          go_wp2_with (fail)
          go_meet
          exact ⟨b5, b6, A3, c3, A4, c4, rfl, rfl, H5, H6, R3, R4, HV6⟩
      · obtain ⟨b6, hnb⟩ : ∃ nb, nb = V1.heap.size := ⟨_, rfl⟩
        refine value_ (w1 := (V1.alloc (.cells #[.int .i64 0, .slice none 0 0] 24))) (v := .pointer (some ⟨b6, 0, none⟩)) (by rfl) rfl (by rw [hnb]; go_simp) ?_
        have hal : Hid (Below V1.heap.size V1 (V1.alloc (.cells #[.int .i64 0, .slice none 0 0] 24))) := Lib.hid ((Below.refl _ _).alloc (Nat.le_refl _) _)
        have H6 : Hid ((V1.alloc (.cells #[.int .i64 0, .slice none 0 0] 24)).heap[b6]? = some (.cells #[.int .i64 0, .slice none 0 0] 24 (0, 0))) := by rw [hnb]; exact Lib.hid (blk_new _ _)
        have gb6 : Hid (wb.heap.size ≤ b6) := by rw [hnb]; exact Lib.hid HV1.out.size
        clear hnb
        generalize (V1.alloc (.cells #[.int .i64 0, .slice none 0 0] 24)) = V2 at hal H6 ⊢
        replace R3 := Lib.hid (Kd.R_below R3.out hal.out)
        have HV2 : Hid (Below wb.heap.size wb V2) := HV1.out.trans (hal.out.mono HV1.out.size)
        refine hK.out _ _ (HSt.out _ HV2.out) (fun hHeld => ?_)
        clear hK K hal HV1
        refine norm_ (a' := ?_) ?_ ?_
        rotate_left
        · show Act.put _ (some 6) _ = _
          go_simp
          rfl
        refine two_ (i := 3) (j := 4) (Ni := some 24) (Nj := some 5) #[true, true, true, true, false, true, false, false] #[true, true, true, false, true, true, false, false] rfl rfl rfl rfl (by kernel_rfl) (by decide) (by decide) (fun K hK => ?_) (fun K hK => ?_)
        · refine goes_ Try.func12 (by kernel_rfl) rfl #[.agg #[.int .i64 b.f0, .slice A2 b.f1.length c2]] (by rfl) rfl rfl (by simp only [List.map_toArray, List.map_cons, List.map_nil]; rfl) ?_
          refine ((HCB.out V2 (HBw.out.trans (HV2.out.mono HBw.out.size)))).mono ?_
          rintro e' V3 ⟨A4, c4, rfl, R4, hb⟩
          refine ⟨_, rfl, ?_⟩
          replace R3 := Lib.hid (Kd.R_below R3.out hb.out)
          replace H6 := Lib.hid (blk_below H6.out hb.out)
          have HV3 : Hid (Below wb.heap.size wb V3) := HV2.out.trans (hb.out.mono HV2.out.size)
          replace R4 := Lib.hid (Kd.R_lower R4.out HV2.out.size)
          refine hK.out _ _ (HSt.out _ HV3.out) (fun hHeld => ?_)
          clear hK K hb HV2
          refine norm_ (a' := ?_) ?_ ?_
          rotate_left
          · show Act.put _ (some 24) _ = _
            go_simp
            rfl
          refine one_ (i := 4) (N := some 5) #[true, true, true, true, true, true, false, false] rfl rfl (by kernel_rfl) (by decide) (fun K hK => ?_)
          obtain ⟨b5, hnb⟩ : ∃ nb, nb = V3.heap.size := ⟨_, rfl⟩
          refine value_ (w1 := (V3.alloc (.cells #[.int .i64 0, .slice none 0 0] 24))) (v := .pointer (some ⟨b5, 0, none⟩)) (by rfl) rfl (by rw [hnb]; go_simp) ?_
          have hal : Hid (Below V3.heap.size V3 (V3.alloc (.cells #[.int .i64 0, .slice none 0 0] 24))) := Lib.hid ((Below.refl _ _).alloc (Nat.le_refl _) _)
          have H5 : Hid ((V3.alloc (.cells #[.int .i64 0, .slice none 0 0] 24)).heap[b5]? = some (.cells #[.int .i64 0, .slice none 0 0] 24 (0, 0))) := by rw [hnb]; exact Lib.hid (blk_new _ _)
          have gb5 : Hid (wb.heap.size ≤ b5) := by rw [hnb]; exact Lib.hid HV3.out.size
          have HNE : Hid (b5 ≠ b6) := Lib.hid (by have := blk_lt H6.out; omega)
          clear hnb
          generalize (V3.alloc (.cells #[.int .i64 0, .slice none 0 0] 24)) = V4 at hal H5 ⊢
          replace R3 := Lib.hid (Kd.R_below R3.out hal.out)
          replace R4 := Lib.hid (Kd.R_below R4.out hal.out)
          replace H6 := Lib.hid (blk_below H6.out hal.out)
          have HV4 : Hid (Below wb.heap.size wb V4) := HV3.out.trans (hal.out.mono HV3.out.size)
          refine hK.out _ _ (HSt.out _ HV4.out) (fun hHeld => ?_)
          clear hK K hal HV3
          refine norm_ (a' := ?_) ?_ ?_
          rotate_left
          · show Act.put _ (some 5) _ = _
            go_simp
            rfl
          refine one_ (i := 6) (N := none) #[true, true, true, true, true, true, true, false] rfl rfl (by kernel_rfl) (by decide) (fun K hK => ?_)
          have x0 : V4.cell? ⟨b5, 0, none⟩ = some (.int .i64 0) := blk_at H5.out 0 rfl
          have z0 : V4.frozen? ⟨b5, 0, none⟩ = false := blk_frozen H5.out 0
          have x1 : V4.cell? ⟨b5, 1, none⟩ = some (.slice none 0 0) := blk_at H5.out 1 rfl
          have z1 : V4.frozen? ⟨b5, 1, none⟩ = false := blk_frozen H5.out 1
          refine skip_ (w1 := ((V4.setCell ⟨b5, 0, none⟩ (.int .i64 a.f0)).setCell ⟨b5, 1, none⟩ (.slice A3 a.f1.length c3))) (by rfl) rfl (by go_simp) ?_
          replace R3 := Lib.hid (Kd.R_set (Kd.R_set R3.out H5.out (by decide) 0 (.int .i64 a.f0)) (blk_put H5.out 0 (.int .i64 a.f0) rfl) (by decide) 1 (.slice A3 a.f1.length c3))
          replace R4 := Lib.hid (Kd.R_set (Kd.R_set R4.out H5.out (by decide) 0 (.int .i64 a.f0)) (blk_put H5.out 0 (.int .i64 a.f0) rfl) (by decide) 1 (.slice A3 a.f1.length c3))
          replace H6 := Lib.hid (blk_far (blk_far H6.out (p := ⟨b5, 0, none⟩) HNE.out.symm (.int .i64 a.f0)) (p := ⟨b5, 1, none⟩) HNE.out.symm (.slice A3 a.f1.length c3))
          replace H5 := Lib.hid (blk_put (blk_put H5.out 0 (.int .i64 a.f0) rfl) 1 (.slice A3 a.f1.length c3) rfl)
          have HV5 : Hid (Below wb.heap.size wb ((V4.setCell ⟨b5, 0, none⟩ (.int .i64 a.f0)).setCell ⟨b5, 1, none⟩ (.slice A3 a.f1.length c3))) := Lib.hid ((HV4.out.setCell (p := ⟨b5, 0, none⟩) gb5.out _).setCell (p := ⟨b5, 1, none⟩) gb5.out _)
          refine hK.out _ _ (HSt.out _ HV5.out) (fun hHeld => ?_)
          clear hK K hHeld HV4 x0 z0 x1 z1
          generalize ((V4.setCell ⟨b5, 0, none⟩ (.int .i64 a.f0)).setCell ⟨b5, 1, none⟩ (.slice A3 a.f1.length c3)) = V5 at *
          refine one_ (i := 7) (N := none) #[true, true, true, true, true, true, true, true] rfl rfl (by kernel_rfl) (by decide) (fun K hK => ?_)
          have x0 : V5.cell? ⟨b6, 0, none⟩ = some (.int .i64 0) := blk_at H6.out 0 rfl
          have z0 : V5.frozen? ⟨b6, 0, none⟩ = false := blk_frozen H6.out 0
          have x1 : V5.cell? ⟨b6, 1, none⟩ = some (.slice none 0 0) := blk_at H6.out 1 rfl
          have z1 : V5.frozen? ⟨b6, 1, none⟩ = false := blk_frozen H6.out 1
          refine skip_ (w1 := ((V5.setCell ⟨b6, 0, none⟩ (.int .i64 b.f0)).setCell ⟨b6, 1, none⟩ (.slice A4 b.f1.length c4))) (by rfl) rfl (by go_simp) ?_
          replace R3 := Lib.hid (Kd.R_set (Kd.R_set R3.out H6.out (by decide) 0 (.int .i64 b.f0)) (blk_put H6.out 0 (.int .i64 b.f0) rfl) (by decide) 1 (.slice A4 b.f1.length c4))
          replace R4 := Lib.hid (Kd.R_set (Kd.R_set R4.out H6.out (by decide) 0 (.int .i64 b.f0)) (blk_put H6.out 0 (.int .i64 b.f0) rfl) (by decide) 1 (.slice A4 b.f1.length c4))
          replace H5 := Lib.hid (blk_far (blk_far H5.out (p := ⟨b6, 0, none⟩) HNE.out (.int .i64 b.f0)) (p := ⟨b6, 1, none⟩) HNE.out (.slice A4 b.f1.length c4))
          replace H6 := Lib.hid (blk_put (blk_put H6.out 0 (.int .i64 b.f0) rfl) 1 (.slice A4 b.f1.length c4) rfl)
          have HV6 : Hid (Below wb.heap.size wb ((V5.setCell ⟨b6, 0, none⟩ (.int .i64 b.f0)).setCell ⟨b6, 1, none⟩ (.slice A4 b.f1.length c4))) := Lib.hid ((HV5.out.setCell (p := ⟨b6, 0, none⟩) gb6.out _).setCell (p := ⟨b6, 1, none⟩) gb6.out _)
          refine hK.out _ _ (HSt.out _ HV6.out) (fun hHeld => ?_)
          clear hK K hHeld HV5 x0 z0 x1 z1
          generalize ((V5.setCell ⟨b6, 0, none⟩ (.int .i64 b.f0)).setCell ⟨b6, 1, none⟩ (.slice A4 b.f1.length c4)) = V6 at *
          refine done_ (by kernel_rfl) ?_
          go_wp2_with (fail)
          go_meet
          exact ⟨b5, b6, A3, c3, A4, c4, rfl, rfl, H5, H6, R3, R4, HV6⟩
        · obtain ⟨b5, hnb⟩ : ∃ nb, nb = V2.heap.size := ⟨_, rfl⟩
          refine value_ (w1 := (V2.alloc (.cells #[.int .i64 0, .slice none 0 0] 24))) (v := .pointer (some ⟨b5, 0, none⟩)) (by rfl) rfl (by rw [hnb]; go_simp) ?_
          have hal : Hid (Below V2.heap.size V2 (V2.alloc (.cells #[.int .i64 0, .slice none 0 0] 24))) := Lib.hid ((Below.refl _ _).alloc (Nat.le_refl _) _)
          have H5 : Hid ((V2.alloc (.cells #[.int .i64 0, .slice none 0 0] 24)).heap[b5]? = some (.cells #[.int .i64 0, .slice none 0 0] 24 (0, 0))) := by rw [hnb]; exact Lib.hid (blk_new _ _)
          have gb5 : Hid (wb.heap.size ≤ b5) := by rw [hnb]; exact Lib.hid HV2.out.size
          have HNE : Hid (b5 ≠ b6) := Lib.hid (by have := blk_lt H6.out; omega)
          clear hnb
          generalize (V2.alloc (.cells #[.int .i64 0, .slice none 0 0] 24)) = V3 at hal H5 ⊢
          replace R3 := Lib.hid (Kd.R_below R3.out hal.out)
          replace H6 := Lib.hid (blk_below H6.out hal.out)
          have HV3 : Hid (Below wb.heap.size wb V3) := HV2.out.trans (hal.out.mono HV2.out.size)
          refine hK.out _ _ (HSt.out _ HV3.out) (fun hHeld => ?_)
          clear hK K hal HV2
          refine norm_ (a' := ?_) ?_ ?_
          rotate_left
          · show Act.put _ (some 5) _ = _
            go_simp
            rfl
          refine one_ (i := 3) (N := some 24) #[true, true, true, true, true, true, false, false] rfl rfl (by kernel_rfl) (by decide) (fun K hK => ?_)
          refine goes_ Try.func12 (by kernel_rfl) rfl #[.agg #[.int .i64 b.f0, .slice A2 b.f1.length c2]] (by rfl) rfl rfl (by simp only [List.map_toArray, List.map_cons, List.map_nil]; rfl) ?_
          refine ((HCB.out V3 (HBw.out.trans (HV3.out.mono HBw.out.size)))).mono ?_
          rintro e' V4 ⟨A4, c4, rfl, R4, hb⟩
          refine ⟨_, rfl, ?_⟩
          replace R3 := Lib.hid (Kd.R_below R3.out hb.out)
          replace H6 := Lib.hid (blk_below H6.out hb.out)
          replace H5 := Lib.hid (blk_below H5.out hb.out)
          have HV4 : Hid (Below wb.heap.size wb V4) := HV3.out.trans (hb.out.mono HV3.out.size)
          replace R4 := Lib.hid (Kd.R_lower R4.out HV3.out.size)
          refine hK.out _ _ (HSt.out _ HV4.out) (fun hHeld => ?_)
          clear hK K hb HV3
          refine norm_ (a' := ?_) ?_ ?_
          rotate_left
          · show Act.put _ (some 24) _ = _
            go_simp
            rfl
          refine one_ (i := 6) (N := none) #[true, true, true, true, true, true, true, false] rfl rfl (by kernel_rfl) (by decide) (fun K hK => ?_)
          have x0 : V4.cell? ⟨b5, 0, none⟩ = some (.int .i64 0) := blk_at H5.out 0 rfl
          have z0 : V4.frozen? ⟨b5, 0, none⟩ = false := blk_frozen H5.out 0
          have x1 : V4.cell? ⟨b5, 1, none⟩ = some (.slice none 0 0) := blk_at H5.out 1 rfl
          have z1 : V4.frozen? ⟨b5, 1, none⟩ = false := blk_frozen H5.out 1
          refine skip_ (w1 := ((V4.setCell ⟨b5, 0, none⟩ (.int .i64 a.f0)).setCell ⟨b5, 1, none⟩ (.slice A3 a.f1.length c3))) (by rfl) rfl (by go_simp) ?_
          replace R3 := Lib.hid (Kd.R_set (Kd.R_set R3.out H5.out (by decide) 0 (.int .i64 a.f0)) (blk_put H5.out 0 (.int .i64 a.f0) rfl) (by decide) 1 (.slice A3 a.f1.length c3))
          replace R4 := Lib.hid (Kd.R_set (Kd.R_set R4.out H5.out (by decide) 0 (.int .i64 a.f0)) (blk_put H5.out 0 (.int .i64 a.f0) rfl) (by decide) 1 (.slice A3 a.f1.length c3))
          replace H6 := Lib.hid (blk_far (blk_far H6.out (p := ⟨b5, 0, none⟩) HNE.out.symm (.int .i64 a.f0)) (p := ⟨b5, 1, none⟩) HNE.out.symm (.slice A3 a.f1.length c3))
          replace H5 := Lib.hid (blk_put (blk_put H5.out 0 (.int .i64 a.f0) rfl) 1 (.slice A3 a.f1.length c3) rfl)
          have HV5 : Hid (Below wb.heap.size wb ((V4.setCell ⟨b5, 0, none⟩ (.int .i64 a.f0)).setCell ⟨b5, 1, none⟩ (.slice A3 a.f1.length c3))) := Lib.hid ((HV4.out.setCell (p := ⟨b5, 0, none⟩) gb5.out _).setCell (p := ⟨b5, 1, none⟩) gb5.out _)
          refine hK.out _ _ (HSt.out _ HV5.out) (fun hHeld => ?_)
          clear hK K hHeld HV4 x0 z0 x1 z1
          generalize ((V4.setCell ⟨b5, 0, none⟩ (.int .i64 a.f0)).setCell ⟨b5, 1, none⟩ (.slice A3 a.f1.length c3)) = V5 at *
          refine one_ (i := 7) (N := none) #[true, true, true, true, true, true, true, true] rfl rfl (by kernel_rfl) (by decide) (fun K hK => ?_)
          have x0 : V5.cell? ⟨b6, 0, none⟩ = some (.int .i64 0) := blk_at H6.out 0 rfl
          have z0 : V5.frozen? ⟨b6, 0, none⟩ = false := blk_frozen H6.out 0
          have x1 : V5.cell? ⟨b6, 1, none⟩ = some (.slice none 0 0) := blk_at H6.out 1 rfl
          have z1 : V5.frozen? ⟨b6, 1, none⟩ = false := blk_frozen H6.out 1
          refine skip_ (w1 := ((V5.setCell ⟨b6, 0, none⟩ (.int .i64 b.f0)).setCell ⟨b6, 1, none⟩ (.slice A4 b.f1.length c4))) (by rfl) rfl (by go_simp) ?_
          replace R3 := Lib.hid (Kd.R_set (Kd.R_set R3.out H6.out (by decide) 0 (.int .i64 b.f0)) (blk_put H6.out 0 (.int .i64 b.f0) rfl) (by decide) 1 (.slice A4 b.f1.length c4))
          replace R4 := Lib.hid (Kd.R_set (Kd.R_set R4.out H6.out (by decide) 0 (.int .i64 b.f0)) (blk_put H6.out 0 (.int .i64 b.f0) rfl) (by decide) 1 (.slice A4 b.f1.length c4))
          replace H5 := Lib.hid (blk_far (blk_far H5.out (p := ⟨b6, 0, none⟩) HNE.out (.int .i64 b.f0)) (p := ⟨b6, 1, none⟩) HNE.out (.slice A4 b.f1.length c4))
          replace H6 := Lib.hid (blk_put (blk_put H6.out 0 (.int .i64 b.f0) rfl) 1 (.slice A4 b.f1.length c4) rfl)
          have HV6 : Hid (Below wb.heap.size wb ((V5.setCell ⟨b6, 0, none⟩ (.int .i64 b.f0)).setCell ⟨b6, 1, none⟩ (.slice A4 b.f1.length c4))) := Lib.hid ((HV5.out.setCell (p := ⟨b6, 0, none⟩) gb6.out _).setCell (p := ⟨b6, 1, none⟩) gb6.out _)
          refine hK.out _ _ (HSt.out _ HV6.out) (fun hHeld => ?_)
          clear hK K hHeld HV5 x0 z0 x1 z1
          generalize ((V5.setCell ⟨b6, 0, none⟩ (.int .i64 b.f0)).setCell ⟨b6, 1, none⟩ (.slice A4 b.f1.length c4)) = V6 at *
          refine done_ (by kernel_rfl) ?_
          go_wp2_with (fail)
          go_meet
          exact ⟨b5, b6, A3, c3, A4, c4, rfl, rfl, H5, H6, R3, R4, HV6⟩
    · obtain ⟨b5, hnb⟩ : ∃ nb, nb = V0.heap.size := ⟨_, rfl⟩
      refine value_ (w1 := (V0.alloc (.cells #[.int .i64 0, .slice none 0 0] 24))) (v := .pointer (some ⟨b5, 0, none⟩)) (by rfl) rfl (by rw [hnb]; go_simp) ?_
      have hal : Hid (Below V0.heap.size V0 (V0.alloc (.cells #[.int .i64 0, .slice none 0 0] 24))) := Lib.hid ((Below.refl _ _).alloc (Nat.le_refl _) _)
      have H5 : Hid ((V0.alloc (.cells #[.int .i64 0, .slice none 0 0] 24)).heap[b5]? = some (.cells #[.int .i64 0, .slice none 0 0] 24 (0, 0))) := by rw [hnb]; exact Lib.hid (blk_new _ _)
      have gb5 : Hid (wb.heap.size ≤ b5) := by rw [hnb]; exact Lib.hid HV0.out.size
      clear hnb
      generalize (V0.alloc (.cells #[.int .i64 0, .slice none 0 0] 24)) = V1 at hal H5 ⊢
      have HV1 : Hid (Below wb.heap.size wb V1) := HV0.out.trans (hal.out.mono HV0.out.size)
      refine hK.out _ _ (HSt.out _ HV1.out) (fun hHeld => ?_)
      clear hK K hal HV0
      refine norm_ (a' := ?_) ?_ ?_
      rotate_left
      · show Act.put _ (some 5) _ = _
        go_simp
        rfl
      refine two_ (i := 1) (j := 5) (Ni := some 22) (Nj := some 6) #[true, true, true, false, true, false, false, false] #[true, false, true, false, true, true, false, false] rfl rfl rfl rfl (by kernel_rfl) (by decide) (by decide) (fun K hK => ?_) (fun K hK => ?_)
      · refine goes_ Try.func12 (by kernel_rfl) rfl #[.agg #[.int .i64 a.f0, .slice A1 a.f1.length c1]] (by rfl) rfl rfl (by simp only [List.map_toArray, List.map_cons, List.map_nil]; rfl) ?_
        refine ((HCA.out V1 (HBw.out.trans (HV1.out.mono HBw.out.size)))).mono ?_
        rintro e' V2 ⟨A3, c3, rfl, R3, hb⟩
        refine ⟨_, rfl, ?_⟩
        replace H5 := Lib.hid (blk_below H5.out hb.out)
        have HV2 : Hid (Below wb.heap.size wb V2) := HV1.out.trans (hb.out.mono HV1.out.size)
        replace R3 := Lib.hid (Kd.R_lower R3.out HV1.out.size)
        refine hK.out _ _ (HSt.out _ HV2.out) (fun hHeld => ?_)
        clear hK K hb HV1
        refine norm_ (a' := ?_) ?_ ?_
        rotate_left
        · show Act.put _ (some 22) _ = _
          go_simp
          rfl
        refine two_ (i := 3) (j := 5) (Ni := some 24) (Nj := some 6) #[true, true, true, true, true, false, false, false] #[true, true, true, false, true, true, false, false] rfl rfl rfl rfl (by kernel_rfl) (by decide) (by decide) (fun K hK => ?_) (fun K hK => ?_)
        · refine goes_ Try.func12 (by kernel_rfl) rfl #[.agg #[.int .i64 b.f0, .slice A2 b.f1.length c2]] (by rfl) rfl rfl (by simp only [List.map_toArray, List.map_cons, List.map_nil]; rfl) ?_
          refine ((HCB.out V2 (HBw.out.trans (HV2.out.mono HBw.out.size)))).mono ?_
          rintro e' V3 ⟨A4, c4, rfl, R4, hb⟩
          refine ⟨_, rfl, ?_⟩
          replace R3 := Lib.hid (Kd.R_below R3.out hb.out)
          replace H5 := Lib.hid (blk_below H5.out hb.out)
          have HV3 : Hid (Below wb.heap.size wb V3) := HV2.out.trans (hb.out.mono HV2.out.size)
          replace R4 := Lib.hid (Kd.R_lower R4.out HV2.out.size)
          refine hK.out _ _ (HSt.out _ HV3.out) (fun hHeld => ?_)
          clear hK K hb HV2
          refine norm_ (a' := ?_) ?_ ?_
          rotate_left
          · show Act.put _ (some 24) _ = _
            go_simp
            rfl
          refine one_ (i := 5) (N := some 6) #[true, true, true, true, true, true, false, false] rfl rfl (by kernel_rfl) (by decide) (fun K hK => ?_)
          obtain ⟨b6, hnb⟩ : ∃ nb, nb = V3.heap.size := ⟨_, rfl⟩
          refine value_ (w1 := (V3.alloc (.cells #[.int .i64 0, .slice none 0 0] 24))) (v := .pointer (some ⟨b6, 0, none⟩)) (by rfl) rfl (by rw [hnb]; go_simp) ?_
          have hal : Hid (Below V3.heap.size V3 (V3.alloc (.cells #[.int .i64 0, .slice none 0 0] 24))) := Lib.hid ((Below.refl _ _).alloc (Nat.le_refl _) _)
          have H6 : Hid ((V3.alloc (.cells #[.int .i64 0, .slice none 0 0] 24)).heap[b6]? = some (.cells #[.int .i64 0, .slice none 0 0] 24 (0, 0))) := by rw [hnb]; exact Lib.hid (blk_new _ _)
          have gb6 : Hid (wb.heap.size ≤ b6) := by rw [hnb]; exact Lib.hid HV3.out.size
          have HNE : Hid (b5 ≠ b6) := Lib.hid (by have := blk_lt H5.out; omega)
          clear hnb
          generalize (V3.alloc (.cells #[.int .i64 0, .slice none 0 0] 24)) = V4 at hal H6 ⊢
          replace R3 := Lib.hid (Kd.R_below R3.out hal.out)
          replace R4 := Lib.hid (Kd.R_below R4.out hal.out)
          replace H5 := Lib.hid (blk_below H5.out hal.out)
          have HV4 : Hid (Below wb.heap.size wb V4) := HV3.out.trans (hal.out.mono HV3.out.size)
          refine hK.out _ _ (HSt.out _ HV4.out) (fun hHeld => ?_)
          clear hK K hal HV3
          refine norm_ (a' := ?_) ?_ ?_
          rotate_left
          · show Act.put _ (some 6) _ = _
            go_simp
            rfl
          refine one_ (i := 6) (N := none) #[true, true, true, true, true, true, true, false] rfl rfl (by kernel_rfl) (by decide) (fun K hK => ?_)
          have x0 : V4.cell? ⟨b5, 0, none⟩ = some (.int .i64 0) := blk_at H5.out 0 rfl
          have z0 : V4.frozen? ⟨b5, 0, none⟩ = false := blk_frozen H5.out 0
          have x1 : V4.cell? ⟨b5, 1, none⟩ = some (.slice none 0 0) := blk_at H5.out 1 rfl
          have z1 : V4.frozen? ⟨b5, 1, none⟩ = false := blk_frozen H5.out 1
          refine skip_ (w1 := ((V4.setCell ⟨b5, 0, none⟩ (.int .i64 a.f0)).setCell ⟨b5, 1, none⟩ (.slice A3 a.f1.length c3))) (by rfl) rfl (by go_simp) ?_
          replace R3 := Lib.hid (Kd.R_set (Kd.R_set R3.out H5.out (by decide) 0 (.int .i64 a.f0)) (blk_put H5.out 0 (.int .i64 a.f0) rfl) (by decide) 1 (.slice A3 a.f1.length c3))
          replace R4 := Lib.hid (Kd.R_set (Kd.R_set R4.out H5.out (by decide) 0 (.int .i64 a.f0)) (blk_put H5.out 0 (.int .i64 a.f0) rfl) (by decide) 1 (.slice A3 a.f1.length c3))
          replace H6 := Lib.hid (blk_far (blk_far H6.out (p := ⟨b5, 0, none⟩) HNE.out.symm (.int .i64 a.f0)) (p := ⟨b5, 1, none⟩) HNE.out.symm (.slice A3 a.f1.length c3))
          replace H5 := Lib.hid (blk_put (blk_put H5.out 0 (.int .i64 a.f0) rfl) 1 (.slice A3 a.f1.length c3) rfl)
          have HV5 : Hid (Below wb.heap.size wb ((V4.setCell ⟨b5, 0, none⟩ (.int .i64 a.f0)).setCell ⟨b5, 1, none⟩ (.slice A3 a.f1.length c3))) := Lib.hid ((HV4.out.setCell (p := ⟨b5, 0, none⟩) gb5.out _).setCell (p := ⟨b5, 1, none⟩) gb5.out _)
          refine hK.out _ _ (HSt.out _ HV5.out) (fun hHeld => ?_)
          clear hK K hHeld HV4 x0 z0 x1 z1
          generalize ((V4.setCell ⟨b5, 0, none⟩ (.int .i64 a.f0)).setCell ⟨b5, 1, none⟩ (.slice A3 a.f1.length c3)) = V5 at *
          refine one_ (i := 7) (N := none) #[true, true, true, true, true, true, true, true] rfl rfl (by kernel_rfl) (by decide) (fun K hK => ?_)
          have x0 : V5.cell? ⟨b6, 0, none⟩ = some (.int .i64 0) := blk_at H6.out 0 rfl
          have z0 : V5.frozen? ⟨b6, 0, none⟩ = false := blk_frozen H6.out 0
          have x1 : V5.cell? ⟨b6, 1, none⟩ = some (.slice none 0 0) := blk_at H6.out 1 rfl
          have z1 : V5.frozen? ⟨b6, 1, none⟩ = false := blk_frozen H6.out 1
          refine skip_ (w1 := ((V5.setCell ⟨b6, 0, none⟩ (.int .i64 b.f0)).setCell ⟨b6, 1, none⟩ (.slice A4 b.f1.length c4))) (by rfl) rfl (by go_simp) ?_
          replace R3 := Lib.hid (Kd.R_set (Kd.R_set R3.out H6.out (by decide) 0 (.int .i64 b.f0)) (blk_put H6.out 0 (.int .i64 b.f0) rfl) (by decide) 1 (.slice A4 b.f1.length c4))
          replace R4 := Lib.hid (Kd.R_set (Kd.R_set R4.out H6.out (by decide) 0 (.int .i64 b.f0)) (blk_put H6.out 0 (.int .i64 b.f0) rfl) (by decide) 1 (.slice A4 b.f1.length c4))
          replace H5 := Lib.hid (blk_far (blk_far H5.out (p := ⟨b6, 0, none⟩) HNE.out (.int .i64 b.f0)) (p := ⟨b6, 1, none⟩) HNE.out (.slice A4 b.f1.length c4))
          replace H6 := Lib.hid (blk_put (blk_put H6.out 0 (.int .i64 b.f0) rfl) 1 (.slice A4 b.f1.length c4) rfl)
          have HV6 : Hid (Below wb.heap.size wb ((V5.setCell ⟨b6, 0, none⟩ (.int .i64 b.f0)).setCell ⟨b6, 1, none⟩ (.slice A4 b.f1.length c4))) := Lib.hid ((HV5.out.setCell (p := ⟨b6, 0, none⟩) gb6.out _).setCell (p := ⟨b6, 1, none⟩) gb6.out _)
          refine hK.out _ _ (HSt.out _ HV6.out) (fun hHeld => ?_)
          clear hK K hHeld HV5 x0 z0 x1 z1
          generalize ((V5.setCell ⟨b6, 0, none⟩ (.int .i64 b.f0)).setCell ⟨b6, 1, none⟩ (.slice A4 b.f1.length c4)) = V6 at *
          refine done_ (by kernel_rfl) ?_
          go_wp2_with (fail)
          go_meet
          exact ⟨b5, b6, A3, c3, A4, c4, rfl, rfl, H5, H6, R3, R4, HV6⟩
        · obtain ⟨b6, hnb⟩ : ∃ nb, nb = V2.heap.size := ⟨_, rfl⟩
          refine value_ (w1 := (V2.alloc (.cells #[.int .i64 0, .slice none 0 0] 24))) (v := .pointer (some ⟨b6, 0, none⟩)) (by rfl) rfl (by rw [hnb]; go_simp) ?_
          have hal : Hid (Below V2.heap.size V2 (V2.alloc (.cells #[.int .i64 0, .slice none 0 0] 24))) := Lib.hid ((Below.refl _ _).alloc (Nat.le_refl _) _)
          have H6 : Hid ((V2.alloc (.cells #[.int .i64 0, .slice none 0 0] 24)).heap[b6]? = some (.cells #[.int .i64 0, .slice none 0 0] 24 (0, 0))) := by rw [hnb]; exact Lib.hid (blk_new _ _)
          have gb6 : Hid (wb.heap.size ≤ b6) := by rw [hnb]; exact Lib.hid HV2.out.size
          have HNE : Hid (b5 ≠ b6) := Lib.hid (by have := blk_lt H5.out; omega)
          clear hnb
          generalize (V2.alloc (.cells #[.int .i64 0, .slice none 0 0] 24)) = V3 at hal H6 ⊢
          replace R3 := Lib.hid (Kd.R_below R3.out hal.out)
          replace H5 := Lib.hid (blk_below H5.out hal.out)
          have HV3 : Hid (Below wb.heap.size wb V3) := HV2.out.trans (hal.out.mono HV2.out.size)
          refine hK.out _ _ (HSt.out _ HV3.out) (fun hHeld => ?_)
          clear hK K hal HV2
          refine norm_ (a' := ?_) ?_ ?_
          rotate_left
          · show Act.put _ (some 6) _ = _
            go_simp
            rfl
          refine one_ (i := 3) (N := some 24) #[true, true, true, true, true, true, false, false] rfl rfl (by kernel_rfl) (by decide) (fun K hK => ?_)
          refine goes_ Try.func12 (by kernel_rfl) rfl #[.agg #[.int .i64 b.f0, .slice A2 b.f1.length c2]] (by rfl) rfl rfl (by simp only [List.map_toArray, List.map_cons, List.map_nil]; rfl) ?_
          refine ((HCB.out V3 (HBw.out.trans (HV3.out.mono HBw.out.size)))).mono ?_
          rintro e' V4 ⟨A4, c4, rfl, R4, hb⟩
          refine ⟨_, rfl, ?_⟩
          replace R3 := Lib.hid (Kd.R_below R3.out hb.out)
          replace H5 := Lib.hid (blk_below H5.out hb.out)
          replace H6 := Lib.hid (blk_below H6.out hb.out)
          have HV4 : Hid (Below wb.heap.size wb V4) := HV3.out.trans (hb.out.mono HV3.out.size)
          replace R4 := Lib.hid (Kd.R_lower R4.out HV3.out.size)
          refine hK.out _ _ (HSt.out _ HV4.out) (fun hHeld => ?_)
          clear hK K hb HV3
          refine norm_ (a' := ?_) ?_ ?_
          rotate_left
          · show Act.put _ (some 24) _ = _
            go_simp
            rfl
          refine one_ (i := 6) (N := none) #[true, true, true, true, true, true, true, false] rfl rfl (by kernel_rfl) (by decide) (fun K hK => ?_)
          have x0 : V4.cell? ⟨b5, 0, none⟩ = some (.int .i64 0) := blk_at H5.out 0 rfl
          have z0 : V4.frozen? ⟨b5, 0, none⟩ = false := blk_frozen H5.out 0
          have x1 : V4.cell? ⟨b5, 1, none⟩ = some (.slice none 0 0) := blk_at H5.out 1 rfl
          have z1 : V4.frozen? ⟨b5, 1, none⟩ = false := blk_frozen H5.out 1
          refine skip_ (w1 := ((V4.setCell ⟨b5, 0, none⟩ (.int .i64 a.f0)).setCell ⟨b5, 1, none⟩ (.slice A3 a.f1.length c3))) (by rfl) rfl (by go_simp) ?_
          replace R3 := Lib.hid (Kd.R_set (Kd.R_set R3.out H5.out (by decide) 0 (.int .i64 a.f0)) (blk_put H5.out 0 (.int .i64 a.f0) rfl) (by decide) 1 (.slice A3 a.f1.length c3))
          replace R4 := Lib.hid (Kd.R_set (Kd.R_set R4.out H5.out (by decide) 0 (.int .i64 a.f0)) (blk_put H5.out 0 (.int .i64 a.f0) rfl) (by decide) 1 (.slice A3 a.f1.length c3))
          replace H6 := Lib.hid (blk_far (blk_far H6.out (p := ⟨b5, 0, none⟩) HNE.out.symm (.int .i64 a.f0)) (p := ⟨b5, 1, none⟩) HNE.out.symm (.slice A3 a.f1.length c3))
          replace H5 := Lib.hid (blk_put (blk_put H5.out 0 (.int .i64 a.f0) rfl) 1 (.slice A3 a.f1.length c3) rfl)
          have HV5 : Hid (Below wb.heap.size wb ((V4.setCell ⟨b5, 0, none⟩ (.int .i64 a.f0)).setCell ⟨b5, 1, none⟩ (.slice A3 a.f1.length c3))) := Lib.hid ((HV4.out.setCell (p := ⟨b5, 0, none⟩) gb5.out _).setCell (p := ⟨b5, 1, none⟩) gb5.out _)
          refine hK.out _ _ (HSt.out _ HV5.out) (fun hHeld => ?_)
          clear hK K hHeld HV4 x0 z0 x1 z1
          generalize ((V4.setCell ⟨b5, 0, none⟩ (.int .i64 a.f0)).setCell ⟨b5, 1, none⟩ (.slice A3 a.f1.length c3)) = V5 at *
          refine one_ (i := 7) (N := none) #[true, true, true, true, true, true, true, true] rfl rfl (by kernel_rfl) (by decide) (fun K hK => ?_)
          have x0 : V5.cell? ⟨b6, 0, none⟩ = some (.int .i64 0) := blk_at H6.out 0 rfl
          have z0 : V5.frozen? ⟨b6, 0, none⟩ = false := blk_frozen H6.out 0
          have x1 : V5.cell? ⟨b6, 1, none⟩ = some (.slice none 0 0) := blk_at H6.out 1 rfl
          have z1 : V5.frozen? ⟨b6, 1, none⟩ = false := blk_frozen H6.out 1
          refine skip_ (w1 := ((V5.setCell ⟨b6, 0, none⟩ (.int .i64 b.f0)).setCell ⟨b6, 1, none⟩ (.slice A4 b.f1.length c4))) (by rfl) rfl (by go_simp) ?_
          replace R3 := Lib.hid (Kd.R_set (Kd.R_set R3.out H6.out (by decide) 0 (.int .i64 b.f0)) (blk_put H6.out 0 (.int .i64 b.f0) rfl) (by decide) 1 (.slice A4 b.f1.length c4))
          replace R4 := Lib.hid (Kd.R_set (Kd.R_set R4.out H6.out (by decide) 0 (.int .i64 b.f0)) (blk_put H6.out 0 (.int .i64 b.f0) rfl) (by decide) 1 (.slice A4 b.f1.length c4))
          replace H5 := Lib.hid (blk_far (blk_far H5.out (p := ⟨b6, 0, none⟩) HNE.out (.int .i64 b.f0)) (p := ⟨b6, 1, none⟩) HNE.out (.slice A4 b.f1.length c4))
          replace H6 := Lib.hid (blk_put (blk_put H6.out 0 (.int .i64 b.f0) rfl) 1 (.slice A4 b.f1.length c4) rfl)
          have HV6 : Hid (Below wb.heap.size wb ((V5.setCell ⟨b6, 0, none⟩ (.int .i64 b.f0)).setCell ⟨b6, 1, none⟩ (.slice A4 b.f1.length c4))) := Lib.hid ((HV5.out.setCell (p := ⟨b6, 0, none⟩) gb6.out _).setCell (p := ⟨b6, 1, none⟩) gb6.out _)
          refine hK.out _ _ (HSt.out _ HV6.out) (fun hHeld => ?_)
          clear hK K hHeld HV5 x0 z0 x1 z1
          generalize ((V5.setCell ⟨b6, 0, none⟩ (.int .i64 b.f0)).setCell ⟨b6, 1, none⟩ (.slice A4 b.f1.length c4)) = V6 at *
          refine done_ (by kernel_rfl) ?_
          go_wp2_with (fail)
          go_meet
          exact ⟨b5, b6, A3, c3, A4, c4, rfl, rfl, H5, H6, R3, R4, HV6⟩
      · obtain ⟨b6, hnb⟩ : ∃ nb, nb = V1.heap.size := ⟨_, rfl⟩
        refine value_ (w1 := (V1.alloc (.cells #[.int .i64 0, .slice none 0 0] 24))) (v := .pointer (some ⟨b6, 0, none⟩)) (by rfl) rfl (by rw [hnb]; go_simp) ?_
        have hal : Hid (Below V1.heap.size V1 (V1.alloc (.cells #[.int .i64 0, .slice none 0 0] 24))) := Lib.hid ((Below.refl _ _).alloc (Nat.le_refl _) _)
        have H6 : Hid ((V1.alloc (.cells #[.int .i64 0, .slice none 0 0] 24)).heap[b6]? = some (.cells #[.int .i64 0, .slice none 0 0] 24 (0, 0))) := by rw [hnb]; exact Lib.hid (blk_new _ _)
        have gb6 : Hid (wb.heap.size ≤ b6) := by rw [hnb]; exact Lib.hid HV1.out.size
        have HNE : Hid (b5 ≠ b6) := Lib.hid (by have := blk_lt H5.out; omega)
        clear hnb
        generalize (V1.alloc (.cells #[.int .i64 0, .slice none 0 0] 24)) = V2 at hal H6 ⊢
        replace H5 := Lib.hid (blk_below H5.out hal.out)
        have HV2 : Hid (Below wb.heap.size wb V2) := HV1.out.trans (hal.out.mono HV1.out.size)
        refine hK.out _ _ (HSt.out _ HV2.out) (fun hHeld => ?_)
        clear hK K hal HV1
        refine norm_ (a' := ?_) ?_ ?_
        rotate_left
        · show Act.put _ (some 6) _ = _
          go_simp
          rfl
        refine one_ (i := 1) (N := some 22) #[true, true, true, false, true, true, false, false] rfl rfl (by kernel_rfl) (by decide) (fun K hK => ?_)
        refine goes_ Try.func12 (by kernel_rfl) rfl #[.agg #[.int .i64 a.f0, .slice A1 a.f1.length c1]] (by rfl) rfl rfl (by simp only [List.map_toArray, List.map_cons, List.map_nil]; rfl) ?_
        refine ((HCA.out V2 (HBw.out.trans (HV2.out.mono HBw.out.size)))).mono ?_
        rintro e' V3 ⟨A3, c3, rfl, R3, hb⟩
        refine ⟨_, rfl, ?_⟩
        replace H5 := Lib.hid (blk_below H5.out hb.out)
        replace H6 := Lib.hid (blk_below H6.out hb.out)
        have HV3 : Hid (Below wb.heap.size wb V3) := HV2.out.trans (hb.out.mono HV2.out.size)
        replace R3 := Lib.hid (Kd.R_lower R3.out HV2.out.size)
        refine hK.out _ _ (HSt.out _ HV3.out) (fun hHeld => ?_)
        clear hK K hb HV2
        refine norm_ (a' := ?_) ?_ ?_
        rotate_left
        · show Act.put _ (some 22) _ = _
          go_simp
          rfl
        refine one_ (i := 3) (N := some 24) #[true, true, true, true, true, true, false, false] rfl rfl (by kernel_rfl) (by decide) (fun K hK => ?_)
        refine goes_ Try.func12 (by kernel_rfl) rfl #[.agg #[.int .i64 b.f0, .slice A2 b.f1.length c2]] (by rfl) rfl rfl (by simp only [List.map_toArray, List.map_cons, List.map_nil]; rfl) ?_
        refine ((HCB.out V3 (HBw.out.trans (HV3.out.mono HBw.out.size)))).mono ?_
        rintro e' V4 ⟨A4, c4, rfl, R4, hb⟩
        refine ⟨_, rfl, ?_⟩
        replace R3 := Lib.hid (Kd.R_below R3.out hb.out)
        replace H5 := Lib.hid (blk_below H5.out hb.out)
        replace H6 := Lib.hid (blk_below H6.out hb.out)
        have HV4 : Hid (Below wb.heap.size wb V4) := HV3.out.trans (hb.out.mono HV3.out.size)
        replace R4 := Lib.hid (Kd.R_lower R4.out HV3.out.size)
        refine hK.out _ _ (HSt.out _ HV4.out) (fun hHeld => ?_)
        clear hK K hb HV3
        refine norm_ (a' := ?_) ?_ ?_
        rotate_left
        · show Act.put _ (some 24) _ = _
          go_simp
          rfl
        refine one_ (i := 6) (N := none) #[true, true, true, true, true, true, true, false] rfl rfl (by kernel_rfl) (by decide) (fun K hK => ?_)
        have x0 : V4.cell? ⟨b5, 0, none⟩ = some (.int .i64 0) := blk_at H5.out 0 rfl
        have z0 : V4.frozen? ⟨b5, 0, none⟩ = false := blk_frozen H5.out 0
        have x1 : V4.cell? ⟨b5, 1, none⟩ = some (.slice none 0 0) := blk_at H5.out 1 rfl
        have z1 : V4.frozen? ⟨b5, 1, none⟩ = false := blk_frozen H5.out 1
        refine skip_ (w1 := ((V4.setCell ⟨b5, 0, none⟩ (.int .i64 a.f0)).setCell ⟨b5, 1, none⟩ (.slice A3 a.f1.length c3))) (by rfl) rfl (by go_simp) ?_
        replace R3 := Lib.hid (Kd.R_set (Kd.R_set R3.out H5.out (by decide) 0 (.int .i64 a.f0)) (blk_put H5.out 0 (.int .i64 a.f0) rfl) (by decide) 1 (.slice A3 a.f1.length c3))
        replace R4 := Lib.hid (Kd.R_set (Kd.R_set R4.out H5.out (by decide) 0 (.int .i64 a.f0)) (blk_put H5.out 0 (.int .i64 a.f0) rfl) (by decide) 1 (.slice A3 a.f1.length c3))
        replace H6 := Lib.hid (blk_far (blk_far H6.out (p := ⟨b5, 0, none⟩) HNE.out.symm (.int .i64 a.f0)) (p := ⟨b5, 1, none⟩) HNE.out.symm (.slice A3 a.f1.length c3))
        replace H5 := Lib.hid (blk_put (blk_put H5.out 0 (.int .i64 a.f0) rfl) 1 (.slice A3 a.f1.length c3) rfl)
        have HV5 : Hid (Below wb.heap.size wb ((V4.setCell ⟨b5, 0, none⟩ (.int .i64 a.f0)).setCell ⟨b5, 1, none⟩ (.slice A3 a.f1.length c3))) := Lib.hid ((HV4.out.setCell (p := ⟨b5, 0, none⟩) gb5.out _).setCell (p := ⟨b5, 1, none⟩) gb5.out _)
        refine hK.out _ _ (HSt.out _ HV5.out) (fun hHeld => ?_)
        clear hK K hHeld HV4 x0 z0 x1 z1
        generalize ((V4.setCell ⟨b5, 0, none⟩ (.int .i64 a.f0)).setCell ⟨b5, 1, none⟩ (.slice A3 a.f1.length c3)) = V5 at *
        refine one_ (i := 7) (N := none) #[true, true, true, true, true, true, true, true] rfl rfl (by kernel_rfl) (by decide) (fun K hK => ?_)
        have x0 : V5.cell? ⟨b6, 0, none⟩ = some (.int .i64 0) := blk_at H6.out 0 rfl
        have z0 : V5.frozen? ⟨b6, 0, none⟩ = false := blk_frozen H6.out 0
        have x1 : V5.cell? ⟨b6, 1, none⟩ = some (.slice none 0 0) := blk_at H6.out 1 rfl
        have z1 : V5.frozen? ⟨b6, 1, none⟩ = false := blk_frozen H6.out 1
        refine skip_ (w1 := ((V5.setCell ⟨b6, 0, none⟩ (.int .i64 b.f0)).setCell ⟨b6, 1, none⟩ (.slice A4 b.f1.length c4))) (by rfl) rfl (by go_simp) ?_
        replace R3 := Lib.hid (Kd.R_set (Kd.R_set R3.out H6.out (by decide) 0 (.int .i64 b.f0)) (blk_put H6.out 0 (.int .i64 b.f0) rfl) (by decide) 1 (.slice A4 b.f1.length c4))
        replace R4 := Lib.hid (Kd.R_set (Kd.R_set R4.out H6.out (by decide) 0 (.int .i64 b.f0)) (blk_put H6.out 0 (.int .i64 b.f0) rfl) (by decide) 1 (.slice A4 b.f1.length c4))
        replace H5 := Lib.hid (blk_far (blk_far H5.out (p := ⟨b6, 0, none⟩) HNE.out (.int .i64 b.f0)) (p := ⟨b6, 1, none⟩) HNE.out (.slice A4 b.f1.length c4))
        replace H6 := Lib.hid (blk_put (blk_put H6.out 0 (.int .i64 b.f0) rfl) 1 (.slice A4 b.f1.length c4) rfl)
        have HV6 : Hid (Below wb.heap.size wb ((V5.setCell ⟨b6, 0, none⟩ (.int .i64 b.f0)).setCell ⟨b6, 1, none⟩ (.slice A4 b.f1.length c4))) := Lib.hid ((HV5.out.setCell (p := ⟨b6, 0, none⟩) gb6.out _).setCell (p := ⟨b6, 1, none⟩) gb6.out _)
        refine hK.out _ _ (HSt.out _ HV6.out) (fun hHeld => ?_)
        clear hK K hHeld HV5 x0 z0 x1 z1
        generalize ((V5.setCell ⟨b6, 0, none⟩ (.int .i64 b.f0)).setCell ⟨b6, 1, none⟩ (.slice A4 b.f1.length c4)) = V6 at *
        refine done_ (by kernel_rfl) ?_
        go_wp2_with (fail)
        go_meet
        exact ⟨b5, b6, A3, c3, A4, c4, rfl, rfl, H5, H6, R3, R4, HV6⟩
    · obtain ⟨b6, hnb⟩ : ∃ nb, nb = V0.heap.size := ⟨_, rfl⟩
      refine value_ (w1 := (V0.alloc (.cells #[.int .i64 0, .slice none 0 0] 24))) (v := .pointer (some ⟨b6, 0, none⟩)) (by rfl) rfl (by rw [hnb]; go_simp) ?_
      have hal : Hid (Below V0.heap.size V0 (V0.alloc (.cells #[.int .i64 0, .slice none 0 0] 24))) := Lib.hid ((Below.refl _ _).alloc (Nat.le_refl _) _)
      have H6 : Hid ((V0.alloc (.cells #[.int .i64 0, .slice none 0 0] 24)).heap[b6]? = some (.cells #[.int .i64 0, .slice none 0 0] 24 (0, 0))) := by rw [hnb]; exact Lib.hid (blk_new _ _)
      have gb6 : Hid (wb.heap.size ≤ b6) := by rw [hnb]; exact Lib.hid HV0.out.size
      clear hnb
      generalize (V0.alloc (.cells #[.int .i64 0, .slice none 0 0] 24)) = V1 at hal H6 ⊢
      have HV1 : Hid (Below wb.heap.size wb V1) := HV0.out.trans (hal.out.mono HV0.out.size)
      refine hK.out _ _ (HSt.out _ HV1.out) (fun hHeld => ?_)
      clear hK K hal HV0
      refine norm_ (a' := ?_) ?_ ?_
      rotate_left
      · show Act.put _ (some 6) _ = _
        go_simp
        rfl
      refine two_ (i := 1) (j := 4) (Ni := some 22) (Nj := some 5) #[true, true, true, false, false, true, false, false] #[true, false, true, false, true, true, false, false] rfl rfl rfl rfl (by kernel_rfl) (by decide) (by decide) (fun K hK => ?_) (fun K hK => ?_)
      · refine goes_ Try.func12 (by kernel_rfl) rfl #[.agg #[.int .i64 a.f0, .slice A1 a.f1.length c1]] (by rfl) rfl rfl (by simp only [List.map_toArray, List.map_cons, List.map_nil]; rfl) ?_
        refine ((HCA.out V1 (HBw.out.trans (HV1.out.mono HBw.out.size)))).mono ?_
        rintro e' V2 ⟨A3, c3, rfl, R3, hb⟩
        refine ⟨_, rfl, ?_⟩
        replace H6 := Lib.hid (blk_below H6.out hb.out)
        have HV2 : Hid (Below wb.heap.size wb V2) := HV1.out.trans (hb.out.mono HV1.out.size)
        replace R3 := Lib.hid (Kd.R_lower R3.out HV1.out.size)
        refine hK.out _ _ (HSt.out _ HV2.out) (fun hHeld => ?_)
        clear hK K hb HV1
        refine norm_ (a' := ?_) ?_ ?_
        rotate_left
        · show Act.put _ (some 22) _ = _
          go_simp
          rfl
        refine two_ (i := 3) (j := 4) (Ni := some 24) (Nj := some 5) #[true, true, true, true, false, true, false, false] #[true, true, true, false, true, true, false, false] rfl rfl rfl rfl (by kernel_rfl) (by decide) (by decide) (fun K hK => ?_) (fun K hK => ?_)
        · refine goes_ Try.func12 (by kernel_rfl) rfl #[.agg #[.int .i64 b.f0, .slice A2 b.f1.length c2]] (by rfl) rfl rfl (by simp only [List.map_toArray, List.map_cons, List.map_nil]; rfl) ?_
          refine ((HCB.out V2 (HBw.out.trans (HV2.out.mono HBw.out.size)))).mono ?_
          rintro e' V3 ⟨A4, c4, rfl, R4, hb⟩
          refine ⟨_, rfl, ?_⟩
          replace R3 := Lib.hid (Kd.R_below R3.out hb.out)
          replace H6 := Lib.hid (blk_below H6.out hb.out)
          have HV3 : Hid (Below wb.heap.size wb V3) := HV2.out.trans (hb.out.mono HV2.out.size)
          replace R4 := Lib.hid (Kd.R_lower R4.out HV2.out.size)
          refine hK.out _ _ (HSt.out _ HV3.out) (fun hHeld => ?_)
          clear hK K hb HV2
          refine norm_ (a' := ?_) ?_ ?_
          rotate_left
          · show Act.put _ (some 24) _ = _
            go_simp
            rfl
          refine one_ (i := 4) (N := some 5) #[true, true, true, true, true, true, false, false] rfl rfl (by kernel_rfl) (by decide) (fun K hK => ?_)
          obtain ⟨b5, hnb⟩ : ∃ nb, nb = V3.heap.size := ⟨_, rfl⟩
          refine value_ (w1 := (V3.alloc (.cells #[.int .i64 0, .slice none 0 0] 24))) (v := .pointer (some ⟨b5, 0, none⟩)) (by rfl) rfl (by rw [hnb]; go_simp) ?_
          have hal : Hid (Below V3.heap.size V3 (V3.alloc (.cells #[.int .i64 0, .slice none 0 0] 24))) := Lib.hid ((Below.refl _ _).alloc (Nat.le_refl _) _)
          have H5 : Hid ((V3.alloc (.cells #[.int .i64 0, .slice none 0 0] 24)).heap[b5]? = some (.cells #[.int .i64 0, .slice none 0 0] 24 (0, 0))) := by rw [hnb]; exact Lib.hid (blk_new _ _)
          have gb5 : Hid (wb.heap.size ≤ b5) := by rw [hnb]; exact Lib.hid HV3.out.size
          have HNE : Hid (b5 ≠ b6) := Lib.hid (by have := blk_lt H6.out; omega)
          clear hnb
          generalize (V3.alloc (.cells #[.int .i64 0, .slice none 0 0] 24)) = V4 at hal H5 ⊢
          replace R3 := Lib.hid (Kd.R_below R3.out hal.out)
          replace R4 := Lib.hid (Kd.R_below R4.out hal.out)
          replace H6 := Lib.hid (blk_below H6.out hal.out)
          have HV4 : Hid (Below wb.heap.size wb V4) := HV3.out.trans (hal.out.mono HV3.out.size)
          refine hK.out _ _ (HSt.out _ HV4.out) (fun hHeld => ?_)
          clear hK K hal HV3
          refine norm_ (a' := ?_) ?_ ?_
          rotate_left
          · show Act.put _ (some 5) _ = _
            go_simp
            rfl
          refine one_ (i := 6) (N := none) #[true, true, true, true, true, true, true, false] rfl rfl (by kernel_rfl) (by decide) (fun K hK => ?_)
          have x0 : V4.cell? ⟨b5, 0, none⟩ = some (.int .i64 0) := blk_at H5.out 0 rfl
          have z0 : V4.frozen? ⟨b5, 0, none⟩ = false := blk_frozen H5.out 0
          have x1 : V4.cell? ⟨b5, 1, none⟩ = some (.slice none 0 0) := blk_at H5.out 1 rfl
          have z1 : V4.frozen? ⟨b5, 1, none⟩ = false := blk_frozen H5.out 1
          refine skip_ (w1 := ((V4.setCell ⟨b5, 0, none⟩ (.int .i64 a.f0)).setCell ⟨b5, 1, none⟩ (.slice A3 a.f1.length c3))) (by rfl) rfl (by go_simp) ?_
          replace R3 := Lib.hid (Kd.R_set (Kd.R_set R3.out H5.out (by decide) 0 (.int .i64 a.f0)) (blk_put H5.out 0 (.int .i64 a.f0) rfl) (by decide) 1 (.slice A3 a.f1.length c3))
          replace R4 := Lib.hid (Kd.R_set (Kd.R_set R4.out H5.out (by decide) 0 (.int .i64 a.f0)) (blk_put H5.out 0 (.int .i64 a.f0) rfl) (by decide) 1 (.slice A3 a.f1.length c3))
          replace H6 := Lib.hid (blk_far (blk_far H6.out (p := ⟨b5, 0, none⟩) HNE.out.symm (.int .i64 a.f0)) (p := ⟨b5, 1, none⟩) HNE.out.symm (.slice A3 a.f1.length c3))
          replace H5 := Lib.hid (blk_put (blk_put H5.out 0 (.int .i64 a.f0) rfl) 1 (.slice A3 a.f1.length c3) rfl)
          have HV5 : Hid (Below wb.heap.size wb ((V4.setCell ⟨b5, 0, none⟩ (.int .i64 a.f0)).setCell ⟨b5, 1, none⟩ (.slice A3 a.f1.length c3))) := Lib.hid ((HV4.out.setCell (p := ⟨b5, 0, none⟩) gb5.out _).setCell (p := ⟨b5, 1, none⟩) gb5.out _)
          refine hK.out _ _ (HSt.out _ HV5.out) (fun hHeld => ?_)
          clear hK K hHeld HV4 x0 z0 x1 z1
          generalize ((V4.setCell ⟨b5, 0, none⟩ (.int .i64 a.f0)).setCell ⟨b5, 1, none⟩ (.slice A3 a.f1.length c3)) = V5 at *
          refine one_ (i := 7) (N := none) #[true, true, true, true, true, true, true, true] rfl rfl (by kernel_rfl) (by decide) (fun K hK => ?_)
          have x0 : V5.cell? ⟨b6, 0, none⟩ = some (.int .i64 0) := blk_at H6.out 0 rfl
          have z0 : V5.frozen? ⟨b6, 0, none⟩ = false := blk_frozen H6.out 0
          have x1 : V5.cell? ⟨b6, 1, none⟩ = some (.slice none 0 0) := blk_at H6.out 1 rfl
          have z1 : V5.frozen? ⟨b6, 1, none⟩ = false := blk_frozen H6.out 1
          refine skip_ (w1 := ((V5.setCell ⟨b6, 0, none⟩ (.int .i64 b.f0)).setCell ⟨b6, 1, none⟩ (.slice A4 b.f1.length c4))) (by rfl) rfl (by go_simp) ?_
          replace R3 := Lib.hid (Kd.R_set (Kd.R_set R3.out H6.out (by decide) 0 (.int .i64 b.f0)) (blk_put H6.out 0 (.int .i64 b.f0) rfl) (by decide) 1 (.slice A4 b.f1.length c4))
          replace R4 := Lib.hid (Kd.R_set (Kd.R_set R4.out H6.out (by decide) 0 (.int .i64 b.f0)) (blk_put H6.out 0 (.int .i64 b.f0) rfl) (by decide) 1 (.slice A4 b.f1.length c4))
          replace H5 := Lib.hid (blk_far (blk_far H5.out (p := ⟨b6, 0, none⟩) HNE.out (.int .i64 b.f0)) (p := ⟨b6, 1, none⟩) HNE.out (.slice A4 b.f1.length c4))
          replace H6 := Lib.hid (blk_put (blk_put H6.out 0 (.int .i64 b.f0) rfl) 1 (.slice A4 b.f1.length c4) rfl)
          have HV6 : Hid (Below wb.heap.size wb ((V5.setCell ⟨b6, 0, none⟩ (.int .i64 b.f0)).setCell ⟨b6, 1, none⟩ (.slice A4 b.f1.length c4))) := Lib.hid ((HV5.out.setCell (p := ⟨b6, 0, none⟩) gb6.out _).setCell (p := ⟨b6, 1, none⟩) gb6.out _)
          refine hK.out _ _ (HSt.out _ HV6.out) (fun hHeld => ?_)
          clear hK K hHeld HV5 x0 z0 x1 z1
          generalize ((V5.setCell ⟨b6, 0, none⟩ (.int .i64 b.f0)).setCell ⟨b6, 1, none⟩ (.slice A4 b.f1.length c4)) = V6 at *
          refine done_ (by kernel_rfl) ?_
          go_wp2_with (fail)
          go_meet
          exact ⟨b5, b6, A3, c3, A4, c4, rfl, rfl, H5, H6, R3, R4, HV6⟩
        · obtain ⟨b5, hnb⟩ : ∃ nb, nb = V2.heap.size := ⟨_, rfl⟩
          refine value_ (w1 := (V2.alloc (.cells #[.int .i64 0, .slice none 0 0] 24))) (v := .pointer (some ⟨b5, 0, none⟩)) (by rfl) rfl (by rw [hnb]; go_simp) ?_
          have hal : Hid (Below V2.heap.size V2 (V2.alloc (.cells #[.int .i64 0, .slice none 0 0] 24))) := Lib.hid ((Below.refl _ _).alloc (Nat.le_refl _) _)
          have H5 : Hid ((V2.alloc (.cells #[.int .i64 0, .slice none 0 0] 24)).heap[b5]? = some (.cells #[.int .i64 0, .slice none 0 0] 24 (0, 0))) := by rw [hnb]; exact Lib.hid (blk_new _ _)
          have gb5 : Hid (wb.heap.size ≤ b5) := by rw [hnb]; exact Lib.hid HV2.out.size
          have HNE : Hid (b5 ≠ b6) := Lib.hid (by have := blk_lt H6.out; omega)
          clear hnb
          generalize (V2.alloc (.cells #[.int .i64 0, .slice none 0 0] 24)) = V3 at hal H5 ⊢
          replace R3 := Lib.hid (Kd.R_below R3.out hal.out)
          replace H6 := Lib.hid (blk_below H6.out hal.out)
          have HV3 : Hid (Below wb.heap.size wb V3) := HV2.out.trans (hal.out.mono HV2.out.size)
          refine hK.out _ _ (HSt.out _ HV3.out) (fun hHeld => ?_)
          clear hK K hal HV2
          refine norm_ (a' := ?_) ?_ ?_
          rotate_left
          · show Act.put _ (some 5) _ = _
            go_simp
            rfl
          refine one_ (i := 3) (N := some 24) #[true, true, true, true, true, true, false, false] rfl rfl (by kernel_rfl) (by decide) (fun K hK => ?_)
          refine goes_ Try.func12 (by kernel_rfl) rfl #[.agg #[.int .i64 b.f0, .slice A2 b.f1.length c2]] (by rfl) rfl rfl (by simp only [List.map_toArray, List.map_cons, List.map_nil]; rfl) ?_
          refine ((HCB.out V3 (HBw.out.trans (HV3.out.mono HBw.out.size)))).mono ?_
          rintro e' V4 ⟨A4, c4, rfl, R4, hb⟩
          refine ⟨_, rfl, ?_⟩
          replace R3 := Lib.hid (Kd.R_below R3.out hb.out)
          replace H6 := Lib.hid (blk_below H6.out hb.out)
          replace H5 := Lib.hid (blk_below H5.out hb.out)
          have HV4 : Hid (Below wb.heap.size wb V4) := HV3.out.trans (hb.out.mono HV3.out.size)
          replace R4 := Lib.hid (Kd.R_lower R4.out HV3.out.size)
          refine hK.out _ _ (HSt.out _ HV4.out) (fun hHeld => ?_)
          clear hK K hb HV3
          refine norm_ (a' := ?_) ?_ ?_
          rotate_left
          · show Act.put _ (some 24) _ = _
            go_simp
            rfl
          refine one_ (i := 6) (N := none) #[true, true, true, true, true, true, true, false] rfl rfl (by kernel_rfl) (by decide) (fun K hK => ?_)
          have x0 : V4.cell? ⟨b5, 0, none⟩ = some (.int .i64 0) := blk_at H5.out 0 rfl
          have z0 : V4.frozen? ⟨b5, 0, none⟩ = false := blk_frozen H5.out 0
          have x1 : V4.cell? ⟨b5, 1, none⟩ = some (.slice none 0 0) := blk_at H5.out 1 rfl
          have z1 : V4.frozen? ⟨b5, 1, none⟩ = false := blk_frozen H5.out 1
          refine skip_ (w1 := ((V4.setCell ⟨b5, 0, none⟩ (.int .i64 a.f0)).setCell ⟨b5, 1, none⟩ (.slice A3 a.f1.length c3))) (by rfl) rfl (by go_simp) ?_
          replace R3 := Lib.hid (Kd.R_set (Kd.R_set R3.out H5.out (by decide) 0 (.int .i64 a.f0)) (blk_put H5.out 0 (.int .i64 a.f0) rfl) (by decide) 1 (.slice A3 a.f1.length c3))
          replace R4 := Lib.hid (Kd.R_set (Kd.R_set R4.out H5.out (by decide) 0 (.int .i64 a.f0)) (blk_put H5.out 0 (.int .i64 a.f0) rfl) (by decide) 1 (.slice A3 a.f1.length c3))
          replace H6 := Lib.hid (blk_far (blk_far H6.out (p := ⟨b5, 0, none⟩) HNE.out.symm (.int .i64 a.f0)) (p := ⟨b5, 1, none⟩) HNE.out.symm (.slice A3 a.f1.length c3))
          replace H5 := Lib.hid (blk_put (blk_put H5.out 0 (.int .i64 a.f0) rfl) 1 (.slice A3 a.f1.length c3) rfl)
          have HV5 : Hid (Below wb.heap.size wb ((V4.setCell ⟨b5, 0, none⟩ (.int .i64 a.f0)).setCell ⟨b5, 1, none⟩ (.slice A3 a.f1.length c3))) := Lib.hid ((HV4.out.setCell (p := ⟨b5, 0, none⟩) gb5.out _).setCell (p := ⟨b5, 1, none⟩) gb5.out _)
          refine hK.out _ _ (HSt.out _ HV5.out) (fun hHeld => ?_)
          clear hK K hHeld HV4 x0 z0 x1 z1
          generalize ((V4.setCell ⟨b5, 0, none⟩ (.int .i64 a.f0)).setCell ⟨b5, 1, none⟩ (.slice A3 a.f1.length c3)) = V5 at *
          refine one_ (i := 7) (N := none) #[true, true, true, true, true, true, true, true] rfl rfl (by kernel_rfl) (by decide) (fun K hK => ?_)
          have x0 : V5.cell? ⟨b6, 0, none⟩ = some (.int .i64 0) := blk_at H6.out 0 rfl
          have z0 : V5.frozen? ⟨b6, 0, none⟩ = false := blk_frozen H6.out 0
          have x1 : V5.cell? ⟨b6, 1, none⟩ = some (.slice none 0 0) := blk_at H6.out 1 rfl
          have z1 : V5.frozen? ⟨b6, 1, none⟩ = false := blk_frozen H6.out 1
          refine skip_ (w1 := ((V5.setCell ⟨b6, 0, none⟩ (.int .i64 b.f0)).setCell ⟨b6, 1, none⟩ (.slice A4 b.f1.length c4))) (by rfl) rfl (by go_simp) ?_
          replace R3 := Lib.hid (Kd.R_set (Kd.R_set R3.out H6.out (by decide) 0 (.int .i64 b.f0)) (blk_put H6.out 0 (.int .i64 b.f0) rfl) (by decide) 1 (.slice A4 b.f1.length c4))
          replace R4 := Lib.hid (Kd.R_set (Kd.R_set R4.out H6.out (by decide) 0 (.int .i64 b.f0)) (blk_put H6.out 0 (.int .i64 b.f0) rfl) (by decide) 1 (.slice A4 b.f1.length c4))
          replace H5 := Lib.hid (blk_far (blk_far H5.out (p := ⟨b6, 0, none⟩) HNE.out (.int .i64 b.f0)) (p := ⟨b6, 1, none⟩) HNE.out (.slice A4 b.f1.length c4))
          replace H6 := Lib.hid (blk_put (blk_put H6.out 0 (.int .i64 b.f0) rfl) 1 (.slice A4 b.f1.length c4) rfl)
          have HV6 : Hid (Below wb.heap.size wb ((V5.setCell ⟨b6, 0, none⟩ (.int .i64 b.f0)).setCell ⟨b6, 1, none⟩ (.slice A4 b.f1.length c4))) := Lib.hid ((HV5.out.setCell (p := ⟨b6, 0, none⟩) gb6.out _).setCell (p := ⟨b6, 1, none⟩) gb6.out _)
          refine hK.out _ _ (HSt.out _ HV6.out) (fun hHeld => ?_)
          clear hK K hHeld HV5 x0 z0 x1 z1
          generalize ((V5.setCell ⟨b6, 0, none⟩ (.int .i64 b.f0)).setCell ⟨b6, 1, none⟩ (.slice A4 b.f1.length c4)) = V6 at *
          refine done_ (by kernel_rfl) ?_
          go_wp2_with (fail)
          go_meet
          exact ⟨b5, b6, A3, c3, A4, c4, rfl, rfl, H5, H6, R3, R4, HV6⟩
      · obtain ⟨b5, hnb⟩ : ∃ nb, nb = V1.heap.size := ⟨_, rfl⟩
        refine value_ (w1 := (V1.alloc (.cells #[.int .i64 0, .slice none 0 0] 24))) (v := .pointer (some ⟨b5, 0, none⟩)) (by rfl) rfl (by rw [hnb]; go_simp) ?_
        have hal : Hid (Below V1.heap.size V1 (V1.alloc (.cells #[.int .i64 0, .slice none 0 0] 24))) := Lib.hid ((Below.refl _ _).alloc (Nat.le_refl _) _)
        have H5 : Hid ((V1.alloc (.cells #[.int .i64 0, .slice none 0 0] 24)).heap[b5]? = some (.cells #[.int .i64 0, .slice none 0 0] 24 (0, 0))) := by rw [hnb]; exact Lib.hid (blk_new _ _)
        have gb5 : Hid (wb.heap.size ≤ b5) := by rw [hnb]; exact Lib.hid HV1.out.size
        have HNE : Hid (b5 ≠ b6) := Lib.hid (by have := blk_lt H6.out; omega)
        clear hnb
        generalize (V1.alloc (.cells #[.int .i64 0, .slice none 0 0] 24)) = V2 at hal H5 ⊢
        replace H6 := Lib.hid (blk_below H6.out hal.out)
        have HV2 : Hid (Below wb.heap.size wb V2) := HV1.out.trans (hal.out.mono HV1.out.size)
        refine hK.out _ _ (HSt.out _ HV2.out) (fun hHeld => ?_)
        clear hK K hal HV1
        refine norm_ (a' := ?_) ?_ ?_
        rotate_left
        · show Act.put _ (some 5) _ = _
          go_simp
          rfl
        refine one_ (i := 1) (N := some 22) #[true, true, true, false, true, true, false, false] rfl rfl (by kernel_rfl) (by decide) (fun K hK => ?_)
        refine goes_ Try.func12 (by kernel_rfl) rfl #[.agg #[.int .i64 a.f0, .slice A1 a.f1.length c1]] (by rfl) rfl rfl (by simp only [List.map_toArray, List.map_cons, List.map_nil]; rfl) ?_
        refine ((HCA.out V2 (HBw.out.trans (HV2.out.mono HBw.out.size)))).mono ?_
        rintro e' V3 ⟨A3, c3, rfl, R3, hb⟩
        refine ⟨_, rfl, ?_⟩
        replace H6 := Lib.hid (blk_below H6.out hb.out)
        replace H5 := Lib.hid (blk_below H5.out hb.out)
        have HV3 : Hid (Below wb.heap.size wb V3) := HV2.out.trans (hb.out.mono HV2.out.size)
        replace R3 := Lib.hid (Kd.R_lower R3.out HV2.out.size)
        refine hK.out _ _ (HSt.out _ HV3.out) (fun hHeld => ?_)
        clear hK K hb HV2
        refine norm_ (a' := ?_) ?_ ?_
        rotate_left
        · show Act.put _ (some 22) _ = _
          go_simp
          rfl
        refine one_ (i := 3) (N := some 24) #[true, true, true, true, true, true, false, false] rfl rfl (by kernel_rfl) (by decide) (fun K hK => ?_)
        refine goes_ Try.func12 (by kernel_rfl) rfl #[.agg #[.int .i64 b.f0, .slice A2 b.f1.length c2]] (by rfl) rfl rfl (by simp only [List.map_toArray, List.map_cons, List.map_nil]; rfl) ?_
        refine ((HCB.out V3 (HBw.out.trans (HV3.out.mono HBw.out.size)))).mono ?_
        rintro e' V4 ⟨A4, c4, rfl, R4, hb⟩
        refine ⟨_, rfl, ?_⟩
        replace R3 := Lib.hid (Kd.R_below R3.out hb.out)
        replace H6 := Lib.hid (blk_below H6.out hb.out)
        replace H5 := Lib.hid (blk_below H5.out hb.out)
        have HV4 : Hid (Below wb.heap.size wb V4) := HV3.out.trans (hb.out.mono HV3.out.size)
        replace R4 := Lib.hid (Kd.R_lower R4.out HV3.out.size)
        refine hK.out _ _ (HSt.out _ HV4.out) (fun hHeld => ?_)
        clear hK K hb HV3
        refine norm_ (a' := ?_) ?_ ?_
        rotate_left
        · show Act.put _ (some 24) _ = _
          go_simp
          rfl
        refine one_ (i := 6) (N := none) #[true, true, true, true, true, true, true, false] rfl rfl (by kernel_rfl) (by decide) (fun K hK => ?_)
        have x0 : V4.cell? ⟨b5, 0, none⟩ = some (.int .i64 0) := blk_at H5.out 0 rfl
        have z0 : V4.frozen? ⟨b5, 0, none⟩ = false := blk_frozen H5.out 0
        have x1 : V4.cell? ⟨b5, 1, none⟩ = some (.slice none 0 0) := blk_at H5.out 1 rfl
        have z1 : V4.frozen? ⟨b5, 1, none⟩ = false := blk_frozen H5.out 1
        refine skip_ (w1 := ((V4.setCell ⟨b5, 0, none⟩ (.int .i64 a.f0)).setCell ⟨b5, 1, none⟩ (.slice A3 a.f1.length c3))) (by rfl) rfl (by go_simp) ?_
        replace R3 := Lib.hid (Kd.R_set (Kd.R_set R3.out H5.out (by decide) 0 (.int .i64 a.f0)) (blk_put H5.out 0 (.int .i64 a.f0) rfl) (by decide) 1 (.slice A3 a.f1.length c3))
        replace R4 := Lib.hid (Kd.R_set (Kd.R_set R4.out H5.out (by decide) 0 (.int .i64 a.f0)) (blk_put H5.out 0 (.int .i64 a.f0) rfl) (by decide) 1 (.slice A3 a.f1.length c3))
        replace H6 := Lib.hid (blk_far (blk_far H6.out (p := ⟨b5, 0, none⟩) HNE.out.symm (.int .i64 a.f0)) (p := ⟨b5, 1, none⟩) HNE.out.symm (.slice A3 a.f1.length c3))
        replace H5 := Lib.hid (blk_put (blk_put H5.out 0 (.int .i64 a.f0) rfl) 1 (.slice A3 a.f1.length c3) rfl)
        have HV5 : Hid (Below wb.heap.size wb ((V4.setCell ⟨b5, 0, none⟩ (.int .i64 a.f0)).setCell ⟨b5, 1, none⟩ (.slice A3 a.f1.length c3))) := Lib.hid ((HV4.out.setCell (p := ⟨b5, 0, none⟩) gb5.out _).setCell (p := ⟨b5, 1, none⟩) gb5.out _)
        refine hK.out _ _ (HSt.out _ HV5.out) (fun hHeld => ?_)
        clear hK K hHeld HV4 x0 z0 x1 z1
        generalize ((V4.setCell ⟨b5, 0, none⟩ (.int .i64 a.f0)).setCell ⟨b5, 1, none⟩ (.slice A3 a.f1.length c3)) = V5 at *
        refine one_ (i := 7) (N := none) #[true, true, true, true, true, true, true, true] rfl rfl (by kernel_rfl) (by decide) (fun K hK => ?_)
        have x0 : V5.cell? ⟨b6, 0, none⟩ = some (.int .i64 0) := blk_at H6.out 0 rfl
        have z0 : V5.frozen? ⟨b6, 0, none⟩ = false := blk_frozen H6.out 0
        have x1 : V5.cell? ⟨b6, 1, none⟩ = some (.slice none 0 0) := blk_at H6.out 1 rfl
        have z1 : V5.frozen? ⟨b6, 1, none⟩ = false := blk_frozen H6.out 1
        refine skip_ (w1 := ((V5.setCell ⟨b6, 0, none⟩ (.int .i64 b.f0)).setCell ⟨b6, 1, none⟩ (.slice A4 b.f1.length c4))) (by rfl) rfl (by go_simp) ?_
        replace R3 := Lib.hid (Kd.R_set (Kd.R_set R3.out H6.out (by decide) 0 (.int .i64 b.f0)) (blk_put H6.out 0 (.int .i64 b.f0) rfl) (by decide) 1 (.slice A4 b.f1.length c4))
        replace R4 := Lib.hid (Kd.R_set (Kd.R_set R4.out H6.out (by decide) 0 (.int .i64 b.f0)) (blk_put H6.out 0 (.int .i64 b.f0) rfl) (by decide) 1 (.slice A4 b.f1.length c4))
        replace H5 := Lib.hid (blk_far (blk_far H5.out (p := ⟨b6, 0, none⟩) HNE.out (.int .i64 b.f0)) (p := ⟨b6, 1, none⟩) HNE.out (.slice A4 b.f1.length c4))
        replace H6 := Lib.hid (blk_put (blk_put H6.out 0 (.int .i64 b.f0) rfl) 1 (.slice A4 b.f1.length c4) rfl)
        have HV6 : Hid (Below wb.heap.size wb ((V5.setCell ⟨b6, 0, none⟩ (.int .i64 b.f0)).setCell ⟨b6, 1, none⟩ (.slice A4 b.f1.length c4))) := Lib.hid ((HV5.out.setCell (p := ⟨b6, 0, none⟩) gb6.out _).setCell (p := ⟨b6, 1, none⟩) gb6.out _)
        refine hK.out _ _ (HSt.out _ HV6.out) (fun hHeld => ?_)
        clear hK K hHeld HV5 x0 z0 x1 z1
        generalize ((V5.setCell ⟨b6, 0, none⟩ (.int .i64 b.f0)).setCell ⟨b6, 1, none⟩ (.slice A4 b.f1.length c4)) = V6 at *
        refine done_ (by kernel_rfl) ?_
        go_wp2_with (fail)
        go_meet
        exact ⟨b5, b6, A3, c3, A4, c4, rfl, rfl, H5, H6, R3, R4, HV6⟩
  case rest =>
  obtain ⟨b5, b6, A3, c3, A4, c4, rfl, rfl, H5, H6, R3, R4, HVb⟩ := hcut
  obtain ⟨v0, hv0⟩ : ∃ W, W = wc := ⟨_, rfl⟩
  rw [← hv0] at H5 H6 R3 R4 HVb ⊢
  clear hv0
  replace H0 := Lib.hid (blk_below H0.out HVb.out)
  replace H1 := Lib.hid (blk_below H1.out HVb.out)
  have HB0 : Hid (Below w.heap.size w v0) := HBw.out.trans (HVb.out.mono HBw.out.size)
  have CX := Lib.hid (Kd.R_reads' R3.out).2
  have CY := Lib.hid (Kd.R_reads' R4.out).2
  clear HSt R3 R4 HVb HBw HCA HCB
  have HP1 : Hid (∀ W, Below w.heap.size w W → Calls Try.prog 22 #[.agg #[.int .i64 a.f0, .slice A1 a.f1.length c1], .agg #[.int .i64 b.f0, .slice A2 b.f1.length c2]] W fun e' w' => DD (diffD a b) (diffE a b) W e' w') := Lib.hid (fun W h => (diff22 a.f0 a.f1 b.f0 b.f1 A1 A2 c1 c2 W (Kd.C_below Q0.out h) (Kd.C_below Q1.out h)).mono (fun _ _ h => h.dd))
  have x0 : v0.cell? ⟨g, 0, none⟩ = some (.int .i64 a.f0) := blk_at H0.out 0 rfl
  have x1 : v0.cell? ⟨g, 1, none⟩ = some (.slice A1 a.f1.length c1) := blk_at H0.out 1 rfl
  have y0 : v0.cell? ⟨(g + 1), 0, none⟩ = some (.int .i64 b.f0) := blk_at H1.out 0 rfl
  have y1 : v0.cell? ⟨(g + 1), 1, none⟩ = some (.slice A2 b.f1.length c2) := blk_at H1.out 1 rfl
  generalize hz : diffD a b = d at HP1
  have X1 := Lib.hid hz
  clear hz
  generalize hz : diffE a b = m1 at HP1
  have M1 := Lib.hid hz
  clear hz
  go_upto_region 5 with (go_at_call 22; refine (HP1.out _ HB0.out).mono ?_; rintro e' u1 ⟨A5, c5, B5, k5, rfl, C1, G1, hb1, L1⟩
                         clear x0 x1 y0 y1)
  have HBu : Hid (Below v0.heap.size v0 (u1.alloc (.cells #[.int .i64 d.f0, .slice A5 d.f1.length c5, .slice B5 d.f2.length k5] 27))) := Lib.hid (hb1.out.alloc hb1.out.size _)
  replace C1 := Lib.hid (Kd.C_alloc C1.out (.cells #[.int .i64 d.f0, .slice A5 d.f1.length c5, .slice B5 d.f2.length k5] 27))
  replace G1 := Lib.hid (Kd.C_alloc G1.out (.cells #[.int .i64 d.f0, .slice A5 d.f1.length c5, .slice B5 d.f2.length k5] 27))
  have K1 := Lib.hid (blk_new u1 (.cells #[.int .i64 d.f0, .slice A5 d.f1.length c5, .slice B5 d.f2.length k5] 27))
  replace H0 := Lib.hid (blk_below H0.out HBu.out)
  replace H1 := Lib.hid (blk_below H1.out HBu.out)
  replace H5 := Lib.hid (blk_below H5.out HBu.out)
  replace H6 := Lib.hid (blk_below H6.out HBu.out)
  obtain ⟨b1, hbb⟩ : ∃ b, b = u1.heap.size := ⟨_, rfl⟩
  rw [← hbb] at K1 ⊢
  generalize u1.alloc (.cells #[.int .i64 d.f0, .slice A5 d.f1.length c5, .slice B5 d.f2.length k5] 27) = v1 at *
  have HB1 : Hid (Below w.heap.size w v1) := HB0.out.trans (HBu.out.mono HB0.out.size)
  have HS1 := HBu
  clear hbb hb1 HBu
  have HF1 : Hid (Below v0.heap.size v0 v1) := HS1
  have HP2 : Hid (∀ W, Below v0.heap.size v0 W → Calls Try.prog 23 #[.agg #[.int .i64 a.f0, .slice A3 a.f1.length c3], .agg #[.int .i64 b.f0, .slice A4 b.f1.length c4]] W fun e' w' => DD (diffD a b) (diffE a b) W e' w') := Lib.hid (fun W h => (rdiff23 a.f0 a.f1 b.f0 b.f1 A3 A4 c3 c4 W (Kd.C_below CX.out.2 h) (Kd.C_below CY.out.2 h) CX.out.1 CY.out.1 pA pB (fun q => okV_of HRa.out q pA) (fun q => okV_of HRb.out q pB)).mono (fun _ _ h => h.dd))
  have x0 : v1.cell? ⟨b5, 0, none⟩ = some (.int .i64 a.f0) := blk_at H5.out 0 rfl
  have x1 : v1.cell? ⟨b5, 1, none⟩ = some (.slice A3 a.f1.length c3) := blk_at H5.out 1 rfl
  have y0 : v1.cell? ⟨b6, 0, none⟩ = some (.int .i64 b.f0) := blk_at H6.out 0 rfl
  have y1 : v1.cell? ⟨b6, 1, none⟩ = some (.slice A4 b.f1.length c4) := blk_at H6.out 1 rfl
  generalize hz : diffD a b = q at HP2
  have X2 := Lib.hid hz
  clear hz
  generalize hz : diffE a b = m2 at HP2
  have M2 := Lib.hid hz
  clear hz
  go_upto_region 6 with (go_at_call 23; refine (HP2.out _ HF1.out).mono ?_; rintro e' u2 ⟨A6, c6, B6, k6, rfl, C2, G2, hb2, L2⟩
                         clear x0 x1 y0 y1)
  have HBu : Hid (Below v1.heap.size v1 (u2.alloc (.cells #[.int .i64 q.f0, .slice A6 q.f1.length c6, .slice B6 q.f2.length k6] 27))) := Lib.hid (hb2.out.alloc hb2.out.size _)
  replace C2 := Lib.hid (Kd.C_alloc C2.out (.cells #[.int .i64 q.f0, .slice A6 q.f1.length c6, .slice B6 q.f2.length k6] 27))
  replace G2 := Lib.hid (Kd.C_alloc G2.out (.cells #[.int .i64 q.f0, .slice A6 q.f1.length c6, .slice B6 q.f2.length k6] 27))
  have K2 := Lib.hid (blk_new u2 (.cells #[.int .i64 q.f0, .slice A6 q.f1.length c6, .slice B6 q.f2.length k6] 27))
  replace H0 := Lib.hid (blk_below H0.out HBu.out)
  replace H1 := Lib.hid (blk_below H1.out HBu.out)
  replace H5 := Lib.hid (blk_below H5.out HBu.out)
  replace H6 := Lib.hid (blk_below H6.out HBu.out)
  replace K1 := Lib.hid (blk_below K1.out HBu.out)
  obtain ⟨b2, hbb⟩ : ∃ b, b = u2.heap.size := ⟨_, rfl⟩
  rw [← hbb] at K2 ⊢
  generalize u2.alloc (.cells #[.int .i64 q.f0, .slice A6 q.f1.length c6, .slice B6 q.f2.length k6] 27) = v2 at *
  have HB2 : Hid (Below w.heap.size w v2) := HB1.out.trans (HBu.out.mono HB1.out.size)
  have HS2 := HBu
  clear hbb hb2 HBu
  have HF2 : Hid (Below v0.heap.size v0 v2) := HF1.out.trans (HS2.out.mono HF1.out.size)
  have hm : m1 = m2 := M1.out.symm.trans M2.out
  subst hm
  have HTQ : Hid (d = q) := Lib.hid (X1.out.symm.trans X2.out)
  have H19 : Hid (∀ W, Below v2.heap.size v2 W → Calls Try.prog 19 #[.agg #[.int .i64 d.f0, .slice A5 d.f1.length c5, .slice B5 d.f2.length k5], .agg #[.int .i64 q.f0, .slice A6 q.f1.length c6, .slice B6 q.f2.length k6]] W fun e w' => SaysB true W e w') := Lib.hid (fun W h => by
    have := sameD19 d q A5 A6 B5 B6 c5 c6 k5 k6 v2 W (Kd.C_below C1.out HS2.out) C2.out (Kd.C_below G1.out HS2.out) G2.out h
    rw [eqB_true HTQ.out] at this
    exact this)
  have H18a : Hid (∀ W, Below v2.heap.size v2 W → Calls Try.prog 18 #[.agg #[.int .i64 a.f0, .slice A1 a.f1.length c1], .agg #[.int .i64 a.f0, .slice A3 a.f1.length c3]] W fun e w' => SaysB true W e w') := Lib.hid (fun W h => by
    have := sameS18 a a A1 A3 c1 c3 v2 W (Kd.C_below Q0.out HB2.out) (Kd.C_below CX.out.2 HF2.out) h
    rw [eqB_true rfl] at this
    exact this)
  have H18b : Hid (∀ W, Below v2.heap.size v2 W → Calls Try.prog 18 #[.agg #[.int .i64 b.f0, .slice A2 b.f1.length c2], .agg #[.int .i64 b.f0, .slice A4 b.f1.length c4]] W fun e w' => SaysB true W e w') := Lib.hid (fun W h => by
    have := sameS18 b b A2 A4 c2 c4 v2 W (Kd.C_below Q1.out HB2.out) (Kd.C_below CY.out.2 HF2.out) h
    rw [eqB_true rfl] at this
    exact this)
  have t0 : v2.cell? ⟨b1, 0, none⟩ = some (.int .i64 d.f0) := blk_at K1.out 0 rfl
  have t1 : v2.cell? ⟨b1, 1, none⟩ = some (.slice A5 d.f1.length c5) := blk_at K1.out 1 rfl
  have t2 : v2.cell? ⟨b1, 2, none⟩ = some (.slice B5 d.f2.length k5) := blk_at K1.out 2 rfl
  have q0 : v2.cell? ⟨b2, 0, none⟩ = some (.int .i64 q.f0) := blk_at K2.out 0 rfl
  have q1 : v2.cell? ⟨b2, 1, none⟩ = some (.slice A6 q.f1.length c6) := blk_at K2.out 1 rfl
  have q2 : v2.cell? ⟨b2, 2, none⟩ = some (.slice B6 q.f2.length k6) := blk_at K2.out 2 rfl
  go_upto_region 8 with (first
    | (go_at_call 19; refine (H19.out _ (Below.refl _ _)).mono ?_; rintro e u2 ⟨rfl, hb⟩
       have HU2 : Hid (Below v2.heap.size v2 u2) := hb
       have M4 := Lib.hid (blk_below H0.out HU2.out)
       have M5 := Lib.hid (blk_below H5.out HU2.out)
       have x0 : u2.cell? ⟨g, 0, none⟩ = some (.int .i64 a.f0) := blk_at M4.out 0 rfl
       have x1 : u2.cell? ⟨g, 1, none⟩ = some (.slice A1 a.f1.length c1) := blk_at M4.out 1 rfl
       have z0 : u2.cell? ⟨b5, 0, none⟩ = some (.int .i64 a.f0) := blk_at M5.out 0 rfl
       have z1 : u2.cell? ⟨b5, 1, none⟩ = some (.slice A3 a.f1.length c3) := blk_at M5.out 1 rfl
       clear hb t0 t1 t2 q0 q1 q2)
    | (go_at_call_of 18 (.agg #[.int .i64 a.f0, .slice A3 a.f1.length c3] : Value); refine (H18a.out _ HU2.out).mono ?_; rintro e u3 ⟨rfl, hb⟩
       have HU3 : Hid (Below v2.heap.size v2 u3) := HU2.out.trans (hb.out.mono HU2.out.size)
       have M6 := Lib.hid (blk_below H1.out HU3.out)
       have M7 := Lib.hid (blk_below H6.out HU3.out)
       have y0 : u3.cell? ⟨(g + 1), 0, none⟩ = some (.int .i64 b.f0) := blk_at M6.out 0 rfl
       have y1 : u3.cell? ⟨(g + 1), 1, none⟩ = some (.slice A2 b.f1.length c2) := blk_at M6.out 1 rfl
       have s0 : u3.cell? ⟨b6, 0, none⟩ = some (.int .i64 b.f0) := blk_at M7.out 0 rfl
       have s1 : u3.cell? ⟨b6, 1, none⟩ = some (.slice A4 b.f1.length c4) := blk_at M7.out 1 rfl
       clear hb x0 x1 z0 z1)
    | (go_at_call_of 18 (.agg #[.int .i64 b.f0, .slice A4 b.f1.length c4] : Value); refine (H18b.out _ HU3.out).mono ?_; rintro e u4 ⟨rfl, hb⟩
       have HU4 : Hid (Below v2.heap.size v2 u4) := HU3.out.trans (hb.out.mono HU3.out.size)
       clear hb))
  have HB4 : Hid (Below w.heap.size w u4) := HB2.out.trans (HU4.out.mono HB2.out.size)
  have HF4 : Hid (Below v0.heap.size v0 u4) := HF2.out.trans (HU4.out.mono HF2.out.size)
  replace H0 := Lib.hid (blk_below H0.out HU4.out)
  replace H1 := Lib.hid (blk_below H1.out HU4.out)
  replace H5 := Lib.hid (blk_below H5.out HU4.out)
  replace H6 := Lib.hid (blk_below H6.out HU4.out)
  clear y0 y1 s0 s1 HU2 HU3 M4 M5 M6 M7 HU4 H19 H18a H18b K1 K2 C1 C2 G1 G2 HTQ X1 X2 M1 M2 HB2 HF2 HS2 HB1 HF1 HP1 HP2 L1 L2
  obtain ⟨v4, hv4⟩ : ∃ W, W = u4 := ⟨_, rfl⟩
  rw [← hv4] at H0 H1 H5 H6 HB4 HF4 ⊢
  clear hv4
  have y0 : v4.cell? ⟨(g + 1), 0, none⟩ = some (.int .i64 b.f0) := blk_at H1.out 0 rfl
  have y1 : v4.cell? ⟨(g + 1), 1, none⟩ = some (.slice A2 b.f1.length c2) := blk_at H1.out 1 rfl
  have HN := Lib.hid (blk_new v4 (.cells #[.int .i64 b.f0, .slice A2 b.f1.length c2] 24))
  have HBn : Hid (Below v4.heap.size v4 (v4.alloc (.cells #[.int .i64 b.f0, .slice A2 b.f1.length c2] 24))) := Lib.hid ((Below.refl _ _).alloc (Nat.le_refl _) _)
  go_upto_region 9 with (fail)
  clear y0 y1
  obtain ⟨b7, hb7⟩ : ∃ q, q = v4.heap.size := ⟨_, rfl⟩
  have HL7 : Hid (v4.heap.size ≤ b7) := Lib.hid (Nat.le_of_eq hb7.symm)
  rw [← hb7] at HN ⊢
  clear hb7
  generalize v4.alloc (.cells #[.int .i64 b.f0, .slice A2 b.f1.length c2] 24) = v5 at *
  replace H0 := Lib.hid (blk_below H0.out HBn.out)
  have x0 : v5.cell? ⟨g, 0, none⟩ = some (.int .i64 a.f0) := blk_at H0.out 0 rfl
  have x1 : v5.cell? ⟨g, 1, none⟩ = some (.slice A1 a.f1.length c1) := blk_at H0.out 1 rfl
  have n0 : v5.cell? ⟨b7, 0, none⟩ = some (.int .i64 b.f0) := blk_at HN.out 0 rfl
  have z0 : v5.frozen? ⟨b7, 0, none⟩ = false := blk_frozen HN.out 0
  have n1 : v5.cell? ⟨b7, 1, none⟩ = some (.slice A2 b.f1.length c2) := blk_at HN.out 1 rfl
  have z1 : v5.frozen? ⟨b7, 1, none⟩ = false := blk_frozen HN.out 1
  go_upto_region 10 with (fail)
  clear x0 x1 n0 n1 z0 z1
  have HBs : Hid (Below v4.heap.size v4 (v5.setCell ⟨b7, 0, none⟩ (.int .i64 a.f0))) := Lib.hid (HBn.out.setCell (show v4.heap.size ≤ b7 from HL7.out) _)
  have HN2 : Hid ((v5.setCell ⟨b7, 0, none⟩ (.int .i64 a.f0)).heap[b7]? = some (.cells #[.int .i64 a.f0, .slice A2 b.f1.length c2] 24 (0, 0))) := Lib.hid (blk_put HN.out 0 _ rfl)
  clear H0 HN HBn HL7
  generalize v5.setCell ⟨b7, 0, none⟩ (.int .i64 a.f0) = v6 at *
  replace H1 := Lib.hid (blk_below H1.out HBs.out)
  replace H5 := Lib.hid (blk_below H5.out HBs.out)
  replace H6 := Lib.hid (blk_below H6.out HBs.out)
  have HB6 : Hid (Below w.heap.size w v6) := HB4.out.trans (HBs.out.mono HB4.out.size)
  have HF6 : Hid (Below v0.heap.size v0 v6) := HF4.out.trans (HBs.out.mono HF4.out.size)
  clear HB4 HF4 HBs
  have HP3 : Hid (Calls Try.prog 22 #[.agg #[.int .i64 b.f0, .slice A2 b.f1.length c2], .agg #[.int .i64 a.f0, .slice A2 b.f1.length c2]] v6 fun e' w' => DD (diffD b (⟨a.f0, b.f1⟩ : S24)) (diffE b (⟨a.f0, b.f1⟩ : S24)) v6 e' w') := Lib.hid ((diff22 b.f0 b.f1 a.f0 b.f1 A2 A2 c2 c2 v6 (Kd.C_below Q1.out HB6.out) (Kd.C_below Q1.out HB6.out)).mono (fun _ _ h => h.dd))
  have n0 : v6.cell? ⟨b7, 0, none⟩ = some (.int .i64 a.f0) := blk_at HN2.out 0 rfl
  have n1 : v6.cell? ⟨b7, 1, none⟩ = some (.slice A2 b.f1.length c2) := blk_at HN2.out 1 rfl
  have y0 : v6.cell? ⟨(g + 1), 0, none⟩ = some (.int .i64 b.f0) := blk_at H1.out 0 rfl
  have y1 : v6.cell? ⟨(g + 1), 1, none⟩ = some (.slice A2 b.f1.length c2) := blk_at H1.out 1 rfl
  generalize hz : diffD b (⟨a.f0, b.f1⟩ : S24) = p at HP3
  have X3 := Lib.hid hz
  clear hz
  generalize hz : diffE b (⟨a.f0, b.f1⟩ : S24) = m3 at HP3
  have M3 := Lib.hid hz
  clear hz
  go_upto_region 11 with (go_at_call 22; refine HP3.out.mono ?_; rintro e' u3 ⟨A7, c7, B7, k7, rfl, C3, G3, hb3, L3⟩
                          clear y0 y1)
  have HBu : Hid (Below v6.heap.size v6 (u3.alloc (.cells #[.int .i64 p.f0, .slice A7 p.f1.length c7, .slice B7 p.f2.length k7] 27))) := Lib.hid (hb3.out.alloc hb3.out.size _)
  replace C3 := Lib.hid (Kd.C_alloc C3.out (.cells #[.int .i64 p.f0, .slice A7 p.f1.length c7, .slice B7 p.f2.length k7] 27))
  replace G3 := Lib.hid (Kd.C_alloc G3.out (.cells #[.int .i64 p.f0, .slice A7 p.f1.length c7, .slice B7 p.f2.length k7] 27))
  have K3 := Lib.hid (blk_new u3 (.cells #[.int .i64 p.f0, .slice A7 p.f1.length c7, .slice B7 p.f2.length k7] 27))
  replace H1 := Lib.hid (blk_below H1.out HBu.out)
  replace H5 := Lib.hid (blk_below H5.out HBu.out)
  replace H6 := Lib.hid (blk_below H6.out HBu.out)
  obtain ⟨b3, hbb⟩ : ∃ b, b = u3.heap.size := ⟨_, rfl⟩
  rw [← hbb] at K3 ⊢
  generalize u3.alloc (.cells #[.int .i64 p.f0, .slice A7 p.f1.length c7, .slice B7 p.f2.length k7] 27) = v3 at *
  have HB3 : Hid (Below w.heap.size w v3) := HB6.out.trans (HBu.out.mono HB6.out.size)
  have HS3 := HBu
  clear hbb hb3 HBu
  clear n0 n1
  have HF3 : Hid (Below v0.heap.size v0 v3) := HF6.out.trans (HS3.out.mono HF6.out.size)
  have HCY : Hid (∀ W, Below v3.heap.size v3 W → Calls Try.prog 12 #[.agg #[.int .i64 b.f0, .slice A4 b.f1.length c4]] W fun e' w' => StR b W e' w') := Lib.hid (fun W h => copyS12 b A4 c4 W (Kd.C_below CY.out.2 (HF3.out.trans (h.mono HF3.out.size))) CY.out.1 (by omega))
  have HP9 : Hid (∀ (W : World) (A9 : Option Addr) (c9 : Nat), Kd.C k63 W A9 b.f1.length b.f1 → b.f1.length ≤ c9 → Below v3.heap.size v3 W → Calls Try.prog 23 #[.agg #[.int .i64 b.f0, .slice A4 b.f1.length c4], .agg #[.int .i64 a.f0, .slice A9 b.f1.length c9]] W fun e' w' => DAv p m3 W e' w') := Lib.hid (fun W A9 c9 h1 h2 h => by
    have := rdiff23 b.f0 b.f1 a.f0 b.f1 A4 A9 c4 c9 W (Kd.C_below CY.out.2 (HF3.out.trans (h.mono HF3.out.size))) h1 CY.out.1 h2 pB pB (fun q => okV_of HRb.out q pB) (fun q => okV_of HRb.out q pB)
    refine this.mono (fun e' w' h9 => ?_)
    have h10 : DAv0 (diffD b (⟨a.f0, b.f1⟩ : S24)) (diffE b (⟨a.f0, b.f1⟩ : S24)) W e' w' := h9
    rw [X3.out, M3.out] at h10
    exact h10.lit)
  have y0 : v3.cell? ⟨b6, 0, none⟩ = some (.int .i64 b.f0) := blk_at H6.out 0 rfl
  have y1 : v3.cell? ⟨b6, 1, none⟩ = some (.slice A4 b.f1.length c4) := blk_at H6.out 1 rfl
  have x0 : v3.cell? ⟨b5, 0, none⟩ = some (.int .i64 a.f0) := blk_at H5.out 0 rfl
  have x1 : v3.cell? ⟨b5, 1, none⟩ = some (.slice A3 a.f1.length c3) := blk_at H5.out 1 rfl
  go_cut [14, 15] (fun va vb wx => ∃ nb A8 c8 B8 k8, va = .pointer (some ⟨nb, 0, none⟩) ∧ vb = .int .i64 m3 ∧ Hid (wx.heap[nb]? = some (.cells #[.int .i64 p.f0, .slice A8 p.f1.length c8, .slice B8 p.f2.length k8] 27 (0, 0))) ∧ Hid (Kd.R k63 63 wx 0 (fun _ => True) (.slice A8 p.f1.length c8) p.f1) ∧ Hid (Kd.R Kd.string 9 wx 0 (fun _ => True) (.slice B8 p.f2.length k8) p.f2) ∧ Hid (Below v3.heap.size v3 wx))
  case first =>
    clear x1
    refine start_ (n := 14) (S := (fun w' => w'.cell? ⟨b6, 0, none⟩ = some (.int .i64 b.f0) ∧ w'.cell? ⟨b6, 1, none⟩ = some (.slice A4 b.f1.length c4) ∧ w'.cell? ⟨b5, 0, none⟩ = some (.int .i64 a.f0))) (ds := [12]) #[false, false, false, false, false, false, false, false, false, false, false, false, false, false] (by kernel_rfl) rfl rfl ⟨y0, y1, x0⟩ (fun hHeld => ?_)
    have HV0 : Hid (Below v3.heap.size v3 v3.drew) := (Below.refl _ _).drew
    generalize v3.drew = V0 at hHeld HV0  ⊢
    refine take_ (i := 0) (N := some 69) (v := ?_) (a' := ?_) #[true, false, false, false, false, false, false, false, false, false, false, false, false, false] rfl rfl (by kernel_rfl) (fun _ _ _ h => h) (Or.inl ⟨by rfl, ?_⟩) hHeld ?_ ?_
    rotate_left
    · rintro w' ⟨s0, s1, s2⟩
      go_simp
      with_reducible rfl
    rotate_left
    · go_simp
      rfl
    refine pure_ (i := 1) (N := some 70) (v := ?_) (a' := ?_) #[true, true, false, false, false, false, false, false, false, false, false, false, false, false] rfl rfl (by kernel_rfl) (fun _ _ _ h => h) (Or.inl ⟨by rfl, ?_⟩) ?_ ?_
    rotate_left
    · intro w'
      go_simp
      with_reducible rfl
    rotate_left
    · go_simp
      rfl
    refine take_ (i := 2) (N := some 71) (v := ?_) (a' := ?_) #[true, true, true, false, false, false, false, false, false, false, false, false, false, false] rfl rfl (by kernel_rfl) (fun _ _ _ h => h) (Or.inl ⟨by rfl, ?_⟩) hHeld ?_ ?_
    rotate_left
    · rintro w' ⟨s0, s1, s2⟩
      go_simp
      with_reducible rfl
    rotate_left
    · go_simp
      rfl
    refine take_ (i := 3) (N := some 72) (v := ?_) (a' := ?_) #[true, true, true, true, false, false, false, false, false, false, false, false, false, false] rfl rfl (by kernel_rfl) (fun _ _ _ h => h) (Or.inl ⟨by rfl, ?_⟩) hHeld ?_ ?_
    rotate_left
    · rintro w' ⟨s0, s1, s2⟩
      go_simp
      with_reducible rfl
    rotate_left
    · go_simp
      rfl
    refine two_ (i := 4) (j := 11) (Ni := some 73) (Nj := some 14) #[true, true, true, true, true, false, false, false, false, false, false, false, false, false] #[true, true, true, true, false, false, false, false, false, false, false, true, false, false] rfl rfl rfl rfl (by kernel_rfl) (by decide) (by decide) (fun K hK => ?_) (fun K hK => ?_)
    · refine goes_ Try.func12 (by kernel_rfl) rfl #[.agg #[.int .i64 b.f0, .slice A4 b.f1.length c4]] (by rfl) rfl rfl (by simp only [List.map_toArray, List.map_cons, List.map_nil]; rfl) ?_
      refine ((HCY.out V0 HV0.out)).mono ?_
      rintro e' V1 ⟨A9, c9, rfl, R9, hb⟩
      refine ⟨_, rfl, ?_⟩
      have HV1 : Hid (Below v3.heap.size v3 V1) := HV0.out.trans (hb.out.mono HV0.out.size)
      refine hK.out _ _ ⟨pw_cell_below hb.out hHeld.1, pw_cell_below hb.out hHeld.2.1, pw_cell_below hb.out hHeld.2.2⟩ (fun hHeld => ?_)
      clear hK K hb
      refine norm_ (a' := ?_) ?_ ?_
      rotate_left
      · show Act.put _ (some 73) _ = _
        go_simp
        rfl
      refine pure_ (i := 5) (N := some 74) (v := .slice A9 b.f1.length c9) (a' := ?_) #[true, true, true, true, true, true, false, false, false, false, false, false, false, false] rfl rfl (by kernel_rfl) (fun _ _ _ h => h) (Or.inl ⟨by rfl, ?_⟩) ?_ ?_
      · intro w'
        kernel_rfl
      rotate_left
      · go_simp
        rfl
      refine pure_ (i := 6) (N := some 75) (v := ?_) (a' := ?_) #[true, true, true, true, true, true, true, false, false, false, false, false, false, false] rfl rfl (by kernel_rfl) (fun _ _ _ h => h) (Or.inl ⟨by rfl, ?_⟩) ?_ ?_
      rotate_left
      · intro w'
        go_simp
        with_reducible rfl
      rotate_left
      · go_simp
        rfl
      refine two_ (i := 7) (j := 11) (Ni := some 76) (Nj := some 14) #[true, true, true, true, true, true, true, true, false, false, false, false, false, false] #[true, true, true, true, true, true, true, false, false, false, false, true, false, false] rfl rfl rfl rfl (by kernel_rfl) (by decide) (by decide) (fun K hK => ?_) (fun K hK => ?_)
      · refine goes_ Try.func23 (by kernel_rfl) rfl #[.agg #[.int .i64 b.f0, .slice A4 b.f1.length c4], .agg #[.int .i64 a.f0, .slice A9 b.f1.length c9]] (by rfl) rfl rfl (by simp only [List.map_toArray, List.map_cons, List.map_nil]; rfl) ?_
        refine ((HP9.out V1 A9 c9 (Kd.R_reads' R9.out).2.2 (Kd.R_reads' R9.out).2.1 HV1.out)).mono ?_
        rintro e' V2 ⟨A8, c8, B8, k8, rfl, R8, G8, hb⟩
        refine ⟨_, rfl, ?_⟩
        replace R9 := Lib.hid (Kd.R_below R9.out hb.out)
        have HV2 : Hid (Below v3.heap.size v3 V2) := HV1.out.trans (hb.out.mono HV1.out.size)
        refine hK.out _ _ ⟨pw_cell_below hb.out hHeld.1, pw_cell_below hb.out hHeld.2.1, pw_cell_below hb.out hHeld.2.2⟩ (fun hHeld => ?_)
        clear hK K hb
        refine norm_ (a' := ?_) ?_ ?_
        rotate_left
        · show Act.put _ (some 76) _ = _
          go_simp
          rfl
        refine pure_ (i := 8) (N := some 68) (v := ?_) (a' := ?_) #[true, true, true, true, true, true, true, true, true, false, false, false, false, false] rfl rfl (by kernel_rfl) (fun _ _ _ h => h) (Or.inl ⟨by rfl, ?_⟩) ?_ ?_
        rotate_left
        · intro w'
          go_simp
          with_reducible rfl
        rotate_left
        · go_simp
          rfl
        refine pure_ (i := 9) (N := some 77) (v := ?_) (a' := ?_) #[true, true, true, true, true, true, true, true, true, true, false, false, false, false] rfl rfl (by kernel_rfl) (fun _ _ _ h => h) (Or.inl ⟨by rfl, ?_⟩) ?_ ?_
        rotate_left
        · intro w'
          go_simp
          with_reducible rfl
        rotate_left
        · go_simp
          rfl
        refine pure_ (i := 10) (N := some 78) (v := ?_) (a' := ?_) #[true, true, true, true, true, true, true, true, true, true, true, false, false, false] rfl rfl (by kernel_rfl) (fun _ _ _ h => h) (Or.inl ⟨by rfl, ?_⟩) ?_ ?_
        rotate_left
        · intro w'
          go_simp
          with_reducible rfl
        rotate_left
        · go_simp
          rfl
        refine one_ (i := 11) (N := some 14) #[true, true, true, true, true, true, true, true, true, true, true, true, false, false] rfl rfl (by kernel_rfl) (by decide) (fun K hK => ?_)
        obtain ⟨nb, hnb⟩ : ∃ nb, nb = V2.heap.size := ⟨_, rfl⟩
        refine value_ (w1 := (V2.alloc (.cells #[.int .i64 0, .slice none 0 0, .slice none 0 0] 27))) (v := .pointer (some ⟨nb, 0, none⟩)) (by rfl) rfl (by rw [hnb]; go_simp) ?_
        have hal : Hid (Below V2.heap.size V2 (V2.alloc (.cells #[.int .i64 0, .slice none 0 0, .slice none 0 0] 27))) := Lib.hid ((Below.refl _ _).alloc (Nat.le_refl _) _)
        have HN9 : Hid ((V2.alloc (.cells #[.int .i64 0, .slice none 0 0, .slice none 0 0] 27)).heap[nb]? = some (.cells #[.int .i64 0, .slice none 0 0, .slice none 0 0] 27 (0, 0))) := by rw [hnb]; exact Lib.hid (blk_new _ _)
        have hnb9 : Hid (v3.heap.size ≤ nb) := by rw [hnb]; exact Lib.hid HV2.out.size
        refine hK.out _ _ ⟨pw_cell_below hal.out hHeld.1, pw_cell_below hal.out hHeld.2.1, pw_cell_below hal.out hHeld.2.2⟩ (fun hHeld => ?_)
        clear hK K hnb
        generalize (V2.alloc (.cells #[.int .i64 0, .slice none 0 0, .slice none 0 0] 27)) = V3 at hHeld hal HN9 ⊢
        replace R9 := Lib.hid (Kd.R_below R9.out hal.out)
        replace R8 := Lib.hid (Kd.R_below R8.out hal.out)
        replace G8 := Lib.hid (Kd.R_below G8.out hal.out)
        have HV3 : Hid (Below v3.heap.size v3 V3) := HV2.out.trans (hal.out.mono HV2.out.size)
        clear hal
        refine norm_ (a' := ?_) ?_ ?_
        rotate_left
        · show Act.put _ (some 14) _ = _
          go_simp
          rfl
        refine last_ (i := 12) (N := none) #[true, true, true, true, true, true, true, true, true, true, true, true, true, false] rfl rfl (by kernel_rfl) (by decide) (fun K hK => ?_)
        have x0 : V3.cell? ⟨nb, 0, none⟩ = some (.int .i64 0) := blk_at HN9.out 0 rfl
        have z0 : V3.frozen? ⟨nb, 0, none⟩ = false := blk_frozen HN9.out 0
        have x1 : V3.cell? ⟨nb, 1, none⟩ = some (.slice none 0 0) := blk_at HN9.out 1 rfl
        have z1 : V3.frozen? ⟨nb, 1, none⟩ = false := blk_frozen HN9.out 1
        have x2 : V3.cell? ⟨nb, 2, none⟩ = some (.slice none 0 0) := blk_at HN9.out 2 rfl
        have z2 : V3.frozen? ⟨nb, 2, none⟩ = false := blk_frozen HN9.out 2
        refine skip_ (w1 := (((V3.setCell ⟨nb, 0, none⟩ (.int .i64 p.f0)).setCell ⟨nb, 1, none⟩ (.slice A8 p.f1.length c8)).setCell ⟨nb, 2, none⟩ (.slice B8 p.f2.length k8))) (by rfl) rfl (by go_simp) ?_
        refine hK.out _ _ ?_
        have R9' := Lib.hid (Kd.R_set (Kd.R_set (Kd.R_set R9.out HN9.out (by decide) 0 (.int .i64 p.f0)) (blk_put HN9.out 0 (.int .i64 p.f0) rfl) (by decide) 1 (.slice A8 p.f1.length c8)) (blk_put (blk_put HN9.out 0 (.int .i64 p.f0) rfl) 1 (.slice A8 p.f1.length c8) rfl) (by decide) 2 (.slice B8 p.f2.length k8))
        have R8' := Lib.hid (Kd.R_set (Kd.R_set (Kd.R_set R8.out HN9.out (by decide) 0 (.int .i64 p.f0)) (blk_put HN9.out 0 (.int .i64 p.f0) rfl) (by decide) 1 (.slice A8 p.f1.length c8)) (blk_put (blk_put HN9.out 0 (.int .i64 p.f0) rfl) 1 (.slice A8 p.f1.length c8) rfl) (by decide) 2 (.slice B8 p.f2.length k8))
        have G8' := Lib.hid (Kd.R_set (Kd.R_set (Kd.R_set G8.out HN9.out (by decide) 0 (.int .i64 p.f0)) (blk_put HN9.out 0 (.int .i64 p.f0) rfl) (by decide) 1 (.slice A8 p.f1.length c8)) (blk_put (blk_put HN9.out 0 (.int .i64 p.f0) rfl) 1 (.slice A8 p.f1.length c8) rfl) (by decide) 2 (.slice B8 p.f2.length k8))
        have HN9' := Lib.hid (blk_put (blk_put (blk_put HN9.out 0 (.int .i64 p.f0) rfl) 1 (.slice A8 p.f1.length c8) rfl) 2 (.slice B8 p.f2.length k8) rfl)
        have HB9 : Hid (Below v3.heap.size v3 (((V3.setCell ⟨nb, 0, none⟩ (.int .i64 p.f0)).setCell ⟨nb, 1, none⟩ (.slice A8 p.f1.length c8)).setCell ⟨nb, 2, none⟩ (.slice B8 p.f2.length k8))) := Lib.hid (((HV3.out.setCell (p := ⟨nb, 0, none⟩) hnb9.out _).setCell (p := ⟨nb, 1, none⟩) hnb9.out _).setCell (p := ⟨nb, 2, none⟩) hnb9.out _)
        clear hK K hHeld x0 z0 x1 z1 x2 z2 R9 R8 G8 HN9 HV0 HV1 HV2 HV3
        generalize (((V3.setCell ⟨nb, 0, none⟩ (.int .i64 p.f0)).setCell ⟨nb, 1, none⟩ (.slice A8 p.f1.length c8)).setCell ⟨nb, 2, none⟩ (.slice B8 p.f2.length k8)) = W9 at *
        refine pure_ (i := 13) (N := some 15) (v := ?_) (a' := ?_) #[true, true, true, true, true, true, true, true, true, true, true, true, true, true] rfl rfl (by kernel_rfl) (fun _ _ _ h => h) (Or.inl ⟨by rfl, ?_⟩) ?_ ?_
        rotate_left
        · intro w'
          go_simp
          with_reducible rfl
        rotate_left
        · go_simp
          rfl
        refine done_ (by kernel_rfl) ?_
        go_wp2_with (fail)
        go_meet
        exact ⟨nb, A8, c8, B8, k8, rfl, rfl, HN9', Lib.hid (Kd.R_lower R8'.out (Nat.zero_le _)), Lib.hid (Kd.R_lower G8'.out (Nat.zero_le _)), HB9⟩
      · obtain ⟨nb, hnb⟩ : ∃ nb, nb = V1.heap.size := ⟨_, rfl⟩
        refine value_ (w1 := (V1.alloc (.cells #[.int .i64 0, .slice none 0 0, .slice none 0 0] 27))) (v := .pointer (some ⟨nb, 0, none⟩)) (by rfl) rfl (by rw [hnb]; go_simp) ?_
        have hal : Hid (Below V1.heap.size V1 (V1.alloc (.cells #[.int .i64 0, .slice none 0 0, .slice none 0 0] 27))) := Lib.hid ((Below.refl _ _).alloc (Nat.le_refl _) _)
        have HN9 : Hid ((V1.alloc (.cells #[.int .i64 0, .slice none 0 0, .slice none 0 0] 27)).heap[nb]? = some (.cells #[.int .i64 0, .slice none 0 0, .slice none 0 0] 27 (0, 0))) := by rw [hnb]; exact Lib.hid (blk_new _ _)
        have hnb9 : Hid (v3.heap.size ≤ nb) := by rw [hnb]; exact Lib.hid HV1.out.size
        refine hK.out _ _ ⟨pw_cell_below hal.out hHeld.1, pw_cell_below hal.out hHeld.2.1, pw_cell_below hal.out hHeld.2.2⟩ (fun hHeld => ?_)
        clear hK K hnb
        generalize (V1.alloc (.cells #[.int .i64 0, .slice none 0 0, .slice none 0 0] 27)) = V2 at hHeld hal HN9 ⊢
        replace R9 := Lib.hid (Kd.R_below R9.out hal.out)
        have HV2 : Hid (Below v3.heap.size v3 V2) := HV1.out.trans (hal.out.mono HV1.out.size)
        clear hal
        refine norm_ (a' := ?_) ?_ ?_
        rotate_left
        · show Act.put _ (some 14) _ = _
          go_simp
          rfl
        refine one_ (i := 7) (N := some 76) #[true, true, true, true, true, true, true, true, false, false, false, true, false, false] rfl rfl (by kernel_rfl) (by decide) (fun K hK => ?_)
        refine goes_ Try.func23 (by kernel_rfl) rfl #[.agg #[.int .i64 b.f0, .slice A4 b.f1.length c4], .agg #[.int .i64 a.f0, .slice A9 b.f1.length c9]] (by rfl) rfl rfl (by simp only [List.map_toArray, List.map_cons, List.map_nil]; rfl) ?_
        refine ((HP9.out V2 A9 c9 (Kd.R_reads' R9.out).2.2 (Kd.R_reads' R9.out).2.1 HV2.out)).mono ?_
        rintro e' V3 ⟨A8, c8, B8, k8, rfl, R8, G8, hb⟩
        refine ⟨_, rfl, ?_⟩
        replace R9 := Lib.hid (Kd.R_below R9.out hb.out)
        replace HN9 := Lib.hid (blk_below HN9.out hb.out)
        have HV3 : Hid (Below v3.heap.size v3 V3) := HV2.out.trans (hb.out.mono HV2.out.size)
        refine hK.out _ _ ⟨pw_cell_below hb.out hHeld.1, pw_cell_below hb.out hHeld.2.1, pw_cell_below hb.out hHeld.2.2⟩ (fun hHeld => ?_)
        clear hK K hb
        refine norm_ (a' := ?_) ?_ ?_
        rotate_left
        · show Act.put _ (some 76) _ = _
          go_simp
          rfl
        refine pure_ (i := 8) (N := some 68) (v := ?_) (a' := ?_) #[true, true, true, true, true, true, true, true, true, false, false, true, false, false] rfl rfl (by kernel_rfl) (fun _ _ _ h => h) (Or.inl ⟨by rfl, ?_⟩) ?_ ?_
        rotate_left
        · intro w'
          go_simp
          with_reducible rfl
        rotate_left
        · go_simp
          rfl
        refine pure_ (i := 9) (N := some 77) (v := ?_) (a' := ?_) #[true, true, true, true, true, true, true, true, true, true, false, true, false, false] rfl rfl (by kernel_rfl) (fun _ _ _ h => h) (Or.inl ⟨by rfl, ?_⟩) ?_ ?_
        rotate_left
        · intro w'
          go_simp
          with_reducible rfl
        rotate_left
        · go_simp
          rfl
        refine pure_ (i := 10) (N := some 78) (v := ?_) (a' := ?_) #[true, true, true, true, true, true, true, true, true, true, true, true, false, false] rfl rfl (by kernel_rfl) (fun _ _ _ h => h) (Or.inl ⟨by rfl, ?_⟩) ?_ ?_
        rotate_left
        · intro w'
          go_simp
          with_reducible rfl
        rotate_left
        · go_simp
          rfl
        refine last_ (i := 12) (N := none) #[true, true, true, true, true, true, true, true, true, true, true, true, true, false] rfl rfl (by kernel_rfl) (by decide) (fun K hK => ?_)
        have x0 : V3.cell? ⟨nb, 0, none⟩ = some (.int .i64 0) := blk_at HN9.out 0 rfl
        have z0 : V3.frozen? ⟨nb, 0, none⟩ = false := blk_frozen HN9.out 0
        have x1 : V3.cell? ⟨nb, 1, none⟩ = some (.slice none 0 0) := blk_at HN9.out 1 rfl
        have z1 : V3.frozen? ⟨nb, 1, none⟩ = false := blk_frozen HN9.out 1
        have x2 : V3.cell? ⟨nb, 2, none⟩ = some (.slice none 0 0) := blk_at HN9.out 2 rfl
        have z2 : V3.frozen? ⟨nb, 2, none⟩ = false := blk_frozen HN9.out 2
        refine skip_ (w1 := (((V3.setCell ⟨nb, 0, none⟩ (.int .i64 p.f0)).setCell ⟨nb, 1, none⟩ (.slice A8 p.f1.length c8)).setCell ⟨nb, 2, none⟩ (.slice B8 p.f2.length k8))) (by rfl) rfl (by go_simp) ?_
        refine hK.out _ _ ?_
        have R9' := Lib.hid (Kd.R_set (Kd.R_set (Kd.R_set R9.out HN9.out (by decide) 0 (.int .i64 p.f0)) (blk_put HN9.out 0 (.int .i64 p.f0) rfl) (by decide) 1 (.slice A8 p.f1.length c8)) (blk_put (blk_put HN9.out 0 (.int .i64 p.f0) rfl) 1 (.slice A8 p.f1.length c8) rfl) (by decide) 2 (.slice B8 p.f2.length k8))
        have R8' := Lib.hid (Kd.R_set (Kd.R_set (Kd.R_set R8.out HN9.out (by decide) 0 (.int .i64 p.f0)) (blk_put HN9.out 0 (.int .i64 p.f0) rfl) (by decide) 1 (.slice A8 p.f1.length c8)) (blk_put (blk_put HN9.out 0 (.int .i64 p.f0) rfl) 1 (.slice A8 p.f1.length c8) rfl) (by decide) 2 (.slice B8 p.f2.length k8))
        have G8' := Lib.hid (Kd.R_set (Kd.R_set (Kd.R_set G8.out HN9.out (by decide) 0 (.int .i64 p.f0)) (blk_put HN9.out 0 (.int .i64 p.f0) rfl) (by decide) 1 (.slice A8 p.f1.length c8)) (blk_put (blk_put HN9.out 0 (.int .i64 p.f0) rfl) 1 (.slice A8 p.f1.length c8) rfl) (by decide) 2 (.slice B8 p.f2.length k8))
        have HN9' := Lib.hid (blk_put (blk_put (blk_put HN9.out 0 (.int .i64 p.f0) rfl) 1 (.slice A8 p.f1.length c8) rfl) 2 (.slice B8 p.f2.length k8) rfl)
        have HB9 : Hid (Below v3.heap.size v3 (((V3.setCell ⟨nb, 0, none⟩ (.int .i64 p.f0)).setCell ⟨nb, 1, none⟩ (.slice A8 p.f1.length c8)).setCell ⟨nb, 2, none⟩ (.slice B8 p.f2.length k8))) := Lib.hid (((HV3.out.setCell (p := ⟨nb, 0, none⟩) hnb9.out _).setCell (p := ⟨nb, 1, none⟩) hnb9.out _).setCell (p := ⟨nb, 2, none⟩) hnb9.out _)
        clear hK K hHeld x0 z0 x1 z1 x2 z2 R9 R8 G8 HN9 HV0 HV1 HV2 HV3
        generalize (((V3.setCell ⟨nb, 0, none⟩ (.int .i64 p.f0)).setCell ⟨nb, 1, none⟩ (.slice A8 p.f1.length c8)).setCell ⟨nb, 2, none⟩ (.slice B8 p.f2.length k8)) = W9 at *
        refine pure_ (i := 13) (N := some 15) (v := ?_) (a' := ?_) #[true, true, true, true, true, true, true, true, true, true, true, true, true, true] rfl rfl (by kernel_rfl) (fun _ _ _ h => h) (Or.inl ⟨by rfl, ?_⟩) ?_ ?_
        rotate_left
        · intro w'
          go_simp
          with_reducible rfl
        rotate_left
        · go_simp
          rfl
        refine done_ (by kernel_rfl) ?_
        go_wp2_with (fail)
        go_meet
        exact ⟨nb, A8, c8, B8, k8, rfl, rfl, HN9', Lib.hid (Kd.R_lower R8'.out (Nat.zero_le _)), Lib.hid (Kd.R_lower G8'.out (Nat.zero_le _)), HB9⟩
    · obtain ⟨nb, hnb⟩ : ∃ nb, nb = V0.heap.size := ⟨_, rfl⟩
      refine value_ (w1 := (V0.alloc (.cells #[.int .i64 0, .slice none 0 0, .slice none 0 0] 27))) (v := .pointer (some ⟨nb, 0, none⟩)) (by rfl) rfl (by rw [hnb]; go_simp) ?_
      have hal : Hid (Below V0.heap.size V0 (V0.alloc (.cells #[.int .i64 0, .slice none 0 0, .slice none 0 0] 27))) := Lib.hid ((Below.refl _ _).alloc (Nat.le_refl _) _)
      have HN9 : Hid ((V0.alloc (.cells #[.int .i64 0, .slice none 0 0, .slice none 0 0] 27)).heap[nb]? = some (.cells #[.int .i64 0, .slice none 0 0, .slice none 0 0] 27 (0, 0))) := by rw [hnb]; exact Lib.hid (blk_new _ _)
      have hnb9 : Hid (v3.heap.size ≤ nb) := by rw [hnb]; exact Lib.hid HV0.out.size
      refine hK.out _ _ ⟨pw_cell_below hal.out hHeld.1, pw_cell_below hal.out hHeld.2.1, pw_cell_below hal.out hHeld.2.2⟩ (fun hHeld => ?_)
      clear hK K hnb
      generalize (V0.alloc (.cells #[.int .i64 0, .slice none 0 0, .slice none 0 0] 27)) = V1 at hHeld hal HN9 ⊢
      have HV1 : Hid (Below v3.heap.size v3 V1) := HV0.out.trans (hal.out.mono HV0.out.size)
      clear hal
      refine norm_ (a' := ?_) ?_ ?_
      rotate_left
      · show Act.put _ (some 14) _ = _
        go_simp
        rfl
      refine one_ (i := 4) (N := some 73) #[true, true, true, true, true, false, false, false, false, false, false, true, false, false] rfl rfl (by kernel_rfl) (by decide) (fun K hK => ?_)
      refine goes_ Try.func12 (by kernel_rfl) rfl #[.agg #[.int .i64 b.f0, .slice A4 b.f1.length c4]] (by rfl) rfl rfl (by simp only [List.map_toArray, List.map_cons, List.map_nil]; rfl) ?_
      refine ((HCY.out V1 HV1.out)).mono ?_
      rintro e' V2 ⟨A9, c9, rfl, R9, hb⟩
      refine ⟨_, rfl, ?_⟩
      replace HN9 := Lib.hid (blk_below HN9.out hb.out)
      have HV2 : Hid (Below v3.heap.size v3 V2) := HV1.out.trans (hb.out.mono HV1.out.size)
      refine hK.out _ _ ⟨pw_cell_below hb.out hHeld.1, pw_cell_below hb.out hHeld.2.1, pw_cell_below hb.out hHeld.2.2⟩ (fun hHeld => ?_)
      clear hK K hb
      refine norm_ (a' := ?_) ?_ ?_
      rotate_left
      · show Act.put _ (some 73) _ = _
        go_simp
        rfl
      refine pure_ (i := 5) (N := some 74) (v := .slice A9 b.f1.length c9) (a' := ?_) #[true, true, true, true, true, true, false, false, false, false, false, true, false, false] rfl rfl (by kernel_rfl) (fun _ _ _ h => h) (Or.inl ⟨by rfl, ?_⟩) ?_ ?_
      · intro w'
        kernel_rfl
      rotate_left
      · go_simp
        rfl
      refine pure_ (i := 6) (N := some 75) (v := ?_) (a' := ?_) #[true, true, true, true, true, true, true, false, false, false, false, true, false, false] rfl rfl (by kernel_rfl) (fun _ _ _ h => h) (Or.inl ⟨by rfl, ?_⟩) ?_ ?_
      rotate_left
      · intro w'
        go_simp
        with_reducible rfl
      rotate_left
      · go_simp
        rfl
      refine one_ (i := 7) (N := some 76) #[true, true, true, true, true, true, true, true, false, false, false, true, false, false] rfl rfl (by kernel_rfl) (by decide) (fun K hK => ?_)
      refine goes_ Try.func23 (by kernel_rfl) rfl #[.agg #[.int .i64 b.f0, .slice A4 b.f1.length c4], .agg #[.int .i64 a.f0, .slice A9 b.f1.length c9]] (by rfl) rfl rfl (by simp only [List.map_toArray, List.map_cons, List.map_nil]; rfl) ?_
      refine ((HP9.out V2 A9 c9 (Kd.R_reads' R9.out).2.2 (Kd.R_reads' R9.out).2.1 HV2.out)).mono ?_
      rintro e' V3 ⟨A8, c8, B8, k8, rfl, R8, G8, hb⟩
      refine ⟨_, rfl, ?_⟩
      replace R9 := Lib.hid (Kd.R_below R9.out hb.out)
      replace HN9 := Lib.hid (blk_below HN9.out hb.out)
      have HV3 : Hid (Below v3.heap.size v3 V3) := HV2.out.trans (hb.out.mono HV2.out.size)
      refine hK.out _ _ ⟨pw_cell_below hb.out hHeld.1, pw_cell_below hb.out hHeld.2.1, pw_cell_below hb.out hHeld.2.2⟩ (fun hHeld => ?_)
      clear hK K hb
      refine norm_ (a' := ?_) ?_ ?_
      rotate_left
      · show Act.put _ (some 76) _ = _
        go_simp
        rfl
      refine pure_ (i := 8) (N := some 68) (v := ?_) (a' := ?_) #[true, true, true, true, true, true, true, true, true, false, false, true, false, false] rfl rfl (by kernel_rfl) (fun _ _ _ h => h) (Or.inl ⟨by rfl, ?_⟩) ?_ ?_
      rotate_left
      · intro w'
        go_simp
        with_reducible rfl
      rotate_left
      · go_simp
        rfl
      refine pure_ (i := 9) (N := some 77) (v := ?_) (a' := ?_) #[true, true, true, true, true, true, true, true, true, true, false, true, false, false] rfl rfl (by kernel_rfl) (fun _ _ _ h => h) (Or.inl ⟨by rfl, ?_⟩) ?_ ?_
      rotate_left
      · intro w'
        go_simp
        with_reducible rfl
      rotate_left
      · go_simp
        rfl
      refine pure_ (i := 10) (N := some 78) (v := ?_) (a' := ?_) #[true, true, true, true, true, true, true, true, true, true, true, true, false, false] rfl rfl (by kernel_rfl) (fun _ _ _ h => h) (Or.inl ⟨by rfl, ?_⟩) ?_ ?_
      rotate_left
      · intro w'
        go_simp
        with_reducible rfl
      rotate_left
      · go_simp
        rfl
      refine last_ (i := 12) (N := none) #[true, true, true, true, true, true, true, true, true, true, true, true, true, false] rfl rfl (by kernel_rfl) (by decide) (fun K hK => ?_)
      have x0 : V3.cell? ⟨nb, 0, none⟩ = some (.int .i64 0) := blk_at HN9.out 0 rfl
      have z0 : V3.frozen? ⟨nb, 0, none⟩ = false := blk_frozen HN9.out 0
      have x1 : V3.cell? ⟨nb, 1, none⟩ = some (.slice none 0 0) := blk_at HN9.out 1 rfl
      have z1 : V3.frozen? ⟨nb, 1, none⟩ = false := blk_frozen HN9.out 1
      have x2 : V3.cell? ⟨nb, 2, none⟩ = some (.slice none 0 0) := blk_at HN9.out 2 rfl
      have z2 : V3.frozen? ⟨nb, 2, none⟩ = false := blk_frozen HN9.out 2
      refine skip_ (w1 := (((V3.setCell ⟨nb, 0, none⟩ (.int .i64 p.f0)).setCell ⟨nb, 1, none⟩ (.slice A8 p.f1.length c8)).setCell ⟨nb, 2, none⟩ (.slice B8 p.f2.length k8))) (by rfl) rfl (by go_simp) ?_
      refine hK.out _ _ ?_
      have R9' := Lib.hid (Kd.R_set (Kd.R_set (Kd.R_set R9.out HN9.out (by decide) 0 (.int .i64 p.f0)) (blk_put HN9.out 0 (.int .i64 p.f0) rfl) (by decide) 1 (.slice A8 p.f1.length c8)) (blk_put (blk_put HN9.out 0 (.int .i64 p.f0) rfl) 1 (.slice A8 p.f1.length c8) rfl) (by decide) 2 (.slice B8 p.f2.length k8))
      have R8' := Lib.hid (Kd.R_set (Kd.R_set (Kd.R_set R8.out HN9.out (by decide) 0 (.int .i64 p.f0)) (blk_put HN9.out 0 (.int .i64 p.f0) rfl) (by decide) 1 (.slice A8 p.f1.length c8)) (blk_put (blk_put HN9.out 0 (.int .i64 p.f0) rfl) 1 (.slice A8 p.f1.length c8) rfl) (by decide) 2 (.slice B8 p.f2.length k8))
      have G8' := Lib.hid (Kd.R_set (Kd.R_set (Kd.R_set G8.out HN9.out (by decide) 0 (.int .i64 p.f0)) (blk_put HN9.out 0 (.int .i64 p.f0) rfl) (by decide) 1 (.slice A8 p.f1.length c8)) (blk_put (blk_put HN9.out 0 (.int .i64 p.f0) rfl) 1 (.slice A8 p.f1.length c8) rfl) (by decide) 2 (.slice B8 p.f2.length k8))
      have HN9' := Lib.hid (blk_put (blk_put (blk_put HN9.out 0 (.int .i64 p.f0) rfl) 1 (.slice A8 p.f1.length c8) rfl) 2 (.slice B8 p.f2.length k8) rfl)
      have HB9 : Hid (Below v3.heap.size v3 (((V3.setCell ⟨nb, 0, none⟩ (.int .i64 p.f0)).setCell ⟨nb, 1, none⟩ (.slice A8 p.f1.length c8)).setCell ⟨nb, 2, none⟩ (.slice B8 p.f2.length k8))) := Lib.hid (((HV3.out.setCell (p := ⟨nb, 0, none⟩) hnb9.out _).setCell (p := ⟨nb, 1, none⟩) hnb9.out _).setCell (p := ⟨nb, 2, none⟩) hnb9.out _)
      clear hK K hHeld x0 z0 x1 z1 x2 z2 R9 R8 G8 HN9 HV0 HV1 HV2 HV3
      generalize (((V3.setCell ⟨nb, 0, none⟩ (.int .i64 p.f0)).setCell ⟨nb, 1, none⟩ (.slice A8 p.f1.length c8)).setCell ⟨nb, 2, none⟩ (.slice B8 p.f2.length k8)) = W9 at *
      refine pure_ (i := 13) (N := some 15) (v := ?_) (a' := ?_) #[true, true, true, true, true, true, true, true, true, true, true, true, true, true] rfl rfl (by kernel_rfl) (fun _ _ _ h => h) (Or.inl ⟨by rfl, ?_⟩) ?_ ?_
      rotate_left
      · intro w'
        go_simp
        with_reducible rfl
      rotate_left
      · go_simp
        rfl
      refine done_ (by kernel_rfl) ?_
      go_wp2_with (fail)
      go_meet
      exact ⟨nb, A8, c8, B8, k8, rfl, rfl, HN9', Lib.hid (Kd.R_lower R8'.out (Nat.zero_le _)), Lib.hid (Kd.R_lower G8'.out (Nat.zero_le _)), HB9⟩
  case rest =>
  obtain ⟨b8, A8, c8, B8, k8, rfl, rfl, H8, R8, G8, HB9⟩ := hcut
  obtain ⟨v7, hv7⟩ : ∃ W, W = wc := ⟨_, rfl⟩
  rw [← hv7] at H8 R8 G8 HB9 ⊢
  clear hv7
  replace H1 := Lib.hid (blk_below H1.out HB9.out)
  replace H6 := Lib.hid (blk_below H6.out HB9.out)
  replace K3 := Lib.hid (blk_below K3.out HB9.out)
  have HBz : Hid (Below w.heap.size w v7) := HB3.out.trans (HB9.out.mono HB3.out.size)
  have HFz : Hid (Below v0.heap.size v0 v7) := HF3.out.trans (HB9.out.mono HF3.out.size)
  have H19 : Hid (Calls Try.prog 19 #[.agg #[.int .i64 p.f0, .slice A7 p.f1.length c7, .slice B7 p.f2.length k7], .agg #[.int .i64 p.f0, .slice A8 p.f1.length c8, .slice B8 p.f2.length k8]] v7 fun e w' => SaysB true v7 e w') := Lib.hid (by
    have := sameD19 p p A7 A8 B7 B8 c7 c8 k7 k8 v7 v7 (Kd.C_below C3.out HB9.out) (Kd.R_reads' R8.out).2.2 (Kd.C_below G3.out HB9.out) (Kd.R_reads' G8.out).2.2 (Below.refl _ _)
    rw [eqB_true rfl] at this
    exact this)
  have H18 : Hid (∀ W, Below v7.heap.size v7 W → Calls Try.prog 18 #[.agg #[.int .i64 b.f0, .slice A2 b.f1.length c2], .agg #[.int .i64 b.f0, .slice A4 b.f1.length c4]] W fun e w' => SaysB true W e w') := Lib.hid (fun W h => by
    have := sameS18 b b A2 A4 c2 c4 v7 W (Kd.C_below Q1.out HBz.out) (Kd.C_below CY.out.2 HFz.out) h
    rw [eqB_true rfl] at this
    exact this)
  have t0 : v7.cell? ⟨b3, 0, none⟩ = some (.int .i64 p.f0) := blk_at K3.out 0 rfl
  have t1 : v7.cell? ⟨b3, 1, none⟩ = some (.slice A7 p.f1.length c7) := blk_at K3.out 1 rfl
  have t2 : v7.cell? ⟨b3, 2, none⟩ = some (.slice B7 p.f2.length k7) := blk_at K3.out 2 rfl
  have q0 : v7.cell? ⟨b8, 0, none⟩ = some (.int .i64 p.f0) := blk_at H8.out 0 rfl
  have q1 : v7.cell? ⟨b8, 1, none⟩ = some (.slice A8 p.f1.length c8) := blk_at H8.out 1 rfl
  have q2 : v7.cell? ⟨b8, 2, none⟩ = some (.slice B8 p.f2.length k8) := blk_at H8.out 2 rfl
  go_wp2_with (first
    | (go_at_call 19; refine H19.out.mono ?_; rintro e u5 ⟨rfl, hb⟩
       have HU5 : Hid (Below v7.heap.size v7 u5) := hb
       have M6 := Lib.hid (blk_below H1.out HU5.out)
       have M7 := Lib.hid (blk_below H6.out HU5.out)
       have y0 : u5.cell? ⟨(g + 1), 0, none⟩ = some (.int .i64 b.f0) := blk_at M6.out 0 rfl
       have y1 : u5.cell? ⟨(g + 1), 1, none⟩ = some (.slice A2 b.f1.length c2) := blk_at M6.out 1 rfl
       have s0 : u5.cell? ⟨b6, 0, none⟩ = some (.int .i64 b.f0) := blk_at M7.out 0 rfl
       have s1 : u5.cell? ⟨b6, 1, none⟩ = some (.slice A4 b.f1.length c4) := blk_at M7.out 1 rfl
       clear hb t0 t1 t2 q0 q1 q2)
    | (go_at_call 18; refine (H18.out _ HU5.out).mono ?_; rintro e u6 ⟨rfl, hb⟩
       have HU6 : Hid (Below v7.heap.size v7 u6) := HU5.out.trans (hb.out.mono HU5.out.size)
       clear hb))
  go_ret
  exact ⟨rfl, HBz.out.trans (HU6.out.mono HBz.out.size)⟩
end Go.Proofs.Ytpplnhefpcofoaa.PDeltaJoin
