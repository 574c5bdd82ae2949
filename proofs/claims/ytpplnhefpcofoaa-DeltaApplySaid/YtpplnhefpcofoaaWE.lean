/- DeltaApply, walked. -/
import Derived.Test.YtpplnhefpcofoaaWD
namespace Go.Proofs.Ytpplnhefpcofoaa.PDeltaJoin
open Go.RowKit Go.Proofs.YtpplnhefpcofoaaW.PrintWords Go.Proofs.YtpplnhefpcofoaaW.PrintLast
set_option linter.unusedVariables false
set_option linter.unusedSimpArgs false

def Law6 (w : World) (e : Ending) (w' : World) : Prop := e = .returned (.bool true) ∧ Below w.heap.size w w'
theorem litT2 (a b : S24) (A1 A2 : Option Addr) (c1 c2 : Nat) (w : World) (g : Nat) (h1 : Kd.C k63 w A1 a.f1.length a.f1) (h2 : Kd.C k63 w A2 b.f1.length b.f1) (l1 : a.f1.length ≤ c1) (l2 : b.f1.length ≤ c2)
    (hb : w.heap[g]? = some (.cells #[.int .i64 a.f0, .slice A1 a.f1.length c1, .int .i64 b.f0, .slice A2 b.f1.length c2] 24 (0, 0))) : Kd.C k24 w (some ⟨g, 0, none⟩) [a, b].length [a, b] := by
  refine lit_C k24 (inner := [.int .i64 a.f0, .slice A1 a.f1.length c1, .int .i64 b.f0, .slice A2 b.f1.length c2]) ?_ hb (by simp)
  have r1 := Reps.snoc (Reps.none _ k24.sz) (k24_mk w a l1 h1) rfl
  exact Reps.snoc r1 (k24_mk w b l2 h2) rfl
set_option maxRecDepth 100000 in
set_option maxHeartbeats 16000000 in
theorem deltaApply_walk (a b : S24) (A1 A2 : Option Addr) (c1 c2 : Nat) (w : World) (h0 : Kd.C k63 w A1 a.f1.length a.f1) (h1 : Kd.C k63 w A2 b.f1.length b.f1) (l0 : a.f1.length ≤ c1) (l1 : b.f1.length ≤ c2) :
    Calls Try.prog 6 #[.agg #[.int .i64 a.f0, .slice A1 a.f1.length c1], .agg #[.int .i64 b.f0, .slice A2 b.f1.length c2]] w fun e' w' => Law6 w e' w' := by
  have H0 : Hid (((w.alloc (.cells #[.int .i64 a.f0, .slice A1 a.f1.length c1] 24)).alloc (.cells #[.int .i64 b.f0, .slice A2 b.f1.length c2] 24)).heap[w.heap.size]? = some (.cells #[.int .i64 a.f0, .slice A1 a.f1.length c1] 24 (0, 0))) := Lib.hid (blk_alloc (blk_new w _) _)
  have H1 : Hid (((w.alloc (.cells #[.int .i64 a.f0, .slice A1 a.f1.length c1] 24)).alloc (.cells #[.int .i64 b.f0, .slice A2 b.f1.length c2] 24)).heap[w.heap.size + 1]? = some (.cells #[.int .i64 b.f0, .slice A2 b.f1.length c2] 24 (0, 0))) := Lib.hid (by
    have := blk_new (w.alloc (.cells #[.int .i64 a.f0, .slice A1 a.f1.length c1] 24)) (.cells #[.int .i64 b.f0, .slice A2 b.f1.length c2] 24)
    rw [World.size_alloc] at this
    exact this)
  have HB : Hid (Below w.heap.size w ((w.alloc (.cells #[.int .i64 a.f0, .slice A1 a.f1.length c1] 24)).alloc (.cells #[.int .i64 b.f0, .slice A2 b.f1.length c2] 24))) := Lib.hid (((Below.refl _ w).alloc (Nat.le_refl _) _).alloc (by simp) _)
  have HT : Hid (∀ W, Below w.heap.size w W → Calls Try.prog 10 #[.slice (some ⟨W.heap.size, 0, none⟩) 2 2] (W.alloc (.cells #[.int .i64 a.f0, .slice A1 a.f1.length c1, .int .i64 b.f0, .slice A2 b.f1.length c2] 24)) fun e' w' => ∃ r, e' = .returned (.bool r) ∧ Hid (Below (W.alloc (.cells #[.int .i64 a.f0, .slice A1 a.f1.length c1, .int .i64 b.f0, .slice A2 b.f1.length c2] 24)).heap.size (W.alloc (.cells #[.int .i64 a.f0, .slice A1 a.f1.length c1, .int .i64 b.f0, .slice A2 b.f1.length c2] 24)) w')) := Lib.hid (fun W h => by
    have hb : Below w.heap.size w (W.alloc (.cells #[.int .i64 a.f0, .slice A1 a.f1.length c1, .int .i64 b.f0, .slice A2 b.f1.length c2] 24)) := h.alloc h.size _
    have := states10 [a, b] (some ⟨W.heap.size, 0, none⟩) 2 (W.alloc (.cells #[.int .i64 a.f0, .slice A1 a.f1.length c1, .int .i64 b.f0, .slice A2 b.f1.length c2] 24)) (litT2 a b A1 A2 c1 c2 _ _ (Kd.C_below h0 hb) (Kd.C_below h1 hb) l0 l1 (blk_new W _))
    refine this.mono ?_
    rintro e' w' ⟨r, he, _, h⟩
    exact ⟨r, he, h⟩)
  have HSa : Hid (∀ W, Below w.heap.size w W → Calls Try.prog 25 #[.agg #[.int .i64 a.f0, .slice A1 a.f1.length c1]] W fun e' w' => SR (soundS a) w W e' w') := Lib.hid (fun W h => sound25 a A1 c1 w W h0 l0 h)
  have HSb : Hid (∀ W, Below w.heap.size w W → Calls Try.prog 25 #[.agg #[.int .i64 b.f0, .slice A2 b.f1.length c2]] W fun e' w' => SR (soundS b) w W e' w') := Lib.hid (fun W h => sound25 b A2 c2 w W h1 l1 h)
  have FX := Lib.hid (soundS_fit a)
  have FY := Lib.hid (soundS_fit b)
  generalize soundS a = x at *
  generalize soundS b = y at *
  clear h0 h1 l0 l1
  go_enter Try.func6, Try.ntmps6
  go_upto_region 1 with (fail)
  generalize ((w.alloc (.cells #[.int .i64 a.f0, .slice A1 a.f1.length c1] 24)).alloc (.cells #[.int .i64 b.f0, .slice A2 b.f1.length c2] 24)) = wa at *
  obtain ⟨g, hg⟩ : ∃ g, g = w.heap.size := ⟨_, rfl⟩
  rw [← hg] at H0 H1 ⊢
  have HG := Lib.hid hg
  clear hg
  have a0 : wa.cell? ⟨g, 0, none⟩ = some (.int .i64 a.f0) := blk_at H0.out 0 rfl
  have a1 : wa.cell? ⟨g, 1, none⟩ = some (.slice A1 a.f1.length c1) := blk_at H0.out 1 rfl
  have b0 : wa.cell? ⟨(g + 1), 0, none⟩ = some (.int .i64 b.f0) := blk_at H1.out 0 rfl
  have b1 : wa.cell? ⟨(g + 1), 1, none⟩ = some (.slice A2 b.f1.length c2) := blk_at H1.out 1 rfl
  have HBL0 : Hid (Below wa.heap.size wa (wa.alloc (.cells #[.int .i64 a.f0, .slice A1 a.f1.length c1, .int .i64 b.f0, .slice A2 b.f1.length c2] 24))) := Lib.hid ((Below.refl _ wa).alloc (Nat.le_refl _) _)
  have HC := Lib.hid (HT.out wa HB.out)
  go_upto_region 5 with (first
    | (go_at_call 10; refine HC.out.mono ?_; rintro e' w1 ⟨bl, rfl, hb1⟩
       have HW1 : Hid (Below wa.heap.size wa w1) := HBL0.out.trans (hb1.out.mono HBL0.out.size)
       have HB1 : Hid (Below w.heap.size w w1) := HB.out.trans (HW1.out.mono HB.out.size)
       clear hb1 a0 a1 b0 b1)
    | (go_at_call 24; refine (plain24 w1).mono ?_; rintro e' w3 ⟨rfl, hb2⟩
       have HW3 : Hid (Below wa.heap.size wa w3) := HW1.out.trans (hb2.out.mono HW1.out.size)
       clear hb2))
  · go_ret
    exact ⟨rfl, HB1.out⟩
  have HB3 : Hid (Below w.heap.size w w3) := HB.out.trans (HW3.out.mono HB.out.size)
  replace H0 := Lib.hid (blk_below H0.out HW3.out)
  replace H1 := Lib.hid (blk_below H1.out HW3.out)
  clear HC HBL0 HB1 HW1 HW3 HB HT
  refine start_ (n := 6) (S := (fun w' => w'.cell? ⟨g, 0, none⟩ = some (.int .i64 a.f0) ∧ w'.cell? ⟨g, 1, none⟩ = some (.slice A1 a.f1.length c1) ∧ w'.cell? ⟨(g + 1), 0, none⟩ = some (.int .i64 b.f0) ∧ w'.cell? ⟨(g + 1), 1, none⟩ = some (.slice A2 b.f1.length c2))) (ds := [4, 5]) #[false, false, false, false, false, false] (by kernel_rfl) rfl rfl ⟨blk_at H0.out 0 rfl, blk_at H0.out 1 rfl, blk_at H1.out 0 rfl, blk_at H1.out 1 rfl⟩ (fun hHeld => ?_)
  have HBd : Hid (Below w.heap.size w w3.drew) := HB3.out.drew
  replace H0 := Lib.hid (blk_drew H0.out)
  replace H1 := Lib.hid (blk_drew H1.out)
  generalize w3.drew = V0 at hHeld HBd H0 H1 ⊢
  refine take_ (i := 0) (N := some 21) (v := ?_) (a' := ?_) #[true, false, false, false, false, false] rfl rfl (by kernel_rfl) (fun _ _ _ h => h) (Or.inl ⟨by rfl, ?_⟩) hHeld ?_ ?_
  rotate_left
  · rintro w' ⟨s0, s1, s2, s3⟩
    go_simp
    with_reducible rfl
  rotate_left
  · simp only [Act.put, List.setIfInBounds_toArray, List.set_cons_zero, List.set_cons_succ]
    rfl
  refine take_ (i := 2) (N := some 23) (v := ?_) (a' := ?_) #[true, false, true, false, false, false] rfl rfl (by kernel_rfl) (fun _ _ _ h => h) (Or.inl ⟨by rfl, ?_⟩) hHeld ?_ ?_
  rotate_left
  · rintro w' ⟨s0, s1, s2, s3⟩
    go_simp
    with_reducible rfl
  rotate_left
  · simp only [Act.put, List.setIfInBounds_toArray, List.set_cons_zero, List.set_cons_succ]
    rfl
  refine one_ (i := 1) (N := some 22) #[true, true, true, false, false, false] rfl rfl (by kernel_rfl) (by decide) (fun K hK => ?_)
  refine goes_ Try.func25 (by kernel_rfl) rfl #[.agg #[.int .i64 a.f0, .slice A1 a.f1.length c1]] (by rfl) rfl rfl (by simp only [List.map_toArray, List.map_cons, List.map_nil]; rfl) ?_
  refine (HSa.out _ HBd.out).mono ?_
  rintro e' V1 ⟨A3, c3, rfl, C3, hb, L3⟩
  refine ⟨_, rfl, ?_⟩
  have HBv1 : Hid (Below w.heap.size w V1) := HBd.out.trans (hb.out.mono HBd.out.size)
  replace H0 := Lib.hid (blk_below H0.out hb.out)
  replace H1 := Lib.hid (blk_below H1.out hb.out)
  refine hK.out _ _ ⟨pw_cell_below hb.out hHeld.1, pw_cell_below hb.out hHeld.2.1, pw_cell_below hb.out hHeld.2.2.1, pw_cell_below hb.out hHeld.2.2.2⟩ (fun hHeld => ?_)
  clear hK K hb
  refine norm_ (a' := ?_) ?_ ?_
  rotate_left
  · show Act.put _ (some 22) _ = _
    simp only [Act.put, List.setIfInBounds_toArray, List.set_cons_zero, List.set_cons_succ]
    rfl
  refine one_ (i := 3) (N := some 24) #[true, true, true, true, false, false] rfl rfl (by kernel_rfl) (by decide) (fun K hK => ?_)
  refine goes_ Try.func25 (by kernel_rfl) rfl #[.agg #[.int .i64 b.f0, .slice A2 b.f1.length c2]] (by rfl) rfl rfl (by simp only [List.map_toArray, List.map_cons, List.map_nil]; rfl) ?_
  refine (HSb.out _ HBv1.out).mono ?_
  rintro e' V2 ⟨A4, c4, rfl, C4, hb, L4⟩
  refine ⟨_, rfl, ?_⟩
  have HBv : Hid (Below w.heap.size w V2) := HBv1.out.trans (hb.out.mono HBv1.out.size)
  replace H0 := Lib.hid (blk_below H0.out hb.out)
  replace H1 := Lib.hid (blk_below H1.out hb.out)
  refine hK.out _ _ ⟨pw_cell_below hb.out hHeld.1, pw_cell_below hb.out hHeld.2.1, pw_cell_below hb.out hHeld.2.2.1, pw_cell_below hb.out hHeld.2.2.2⟩ (fun hHeld => ?_)
  clear hK K hb hHeld
  refine norm_ (a' := ?_) ?_ ?_
  rotate_left
  · show Act.put _ (some 24) _ = _
    simp only [Act.put, List.setIfInBounds_toArray, List.set_cons_zero, List.set_cons_succ]
    rfl
  refine last_ (i := 4) (N := none) #[true, true, true, true, true, false] rfl rfl (by kernel_rfl) (by decide) (fun K hK => ?_)
  have x0 : V2.cell? ⟨g, 0, none⟩ = some (.int .i64 a.f0) := blk_at H0.out 0 rfl
  have z0 : V2.frozen? ⟨g, 0, none⟩ = false := blk_frozen H0.out 0
  have x1 : V2.cell? ⟨g, 1, none⟩ = some (.slice A1 a.f1.length c1) := blk_at H0.out 1 rfl
  have z1 : V2.frozen? ⟨g, 1, none⟩ = false := blk_frozen H0.out 1
  refine skip_ (w1 := ((V2.setCell ⟨g, 0, none⟩ (.int .i64 x.f0)).setCell ⟨g, 1, none⟩ (.slice A3 x.f1.length c3))) (by rfl) rfl (by go_simp) ?_
  refine hK.out _ _ ?_
  replace H0 := Lib.hid (blk_put (blk_put H0.out 0 (.int .i64 x.f0) rfl) 1 (.slice A3 x.f1.length c3) rfl)
  replace H1 := Lib.hid (blk_far (blk_far H1.out (p := ⟨g, 0, none⟩) (show g + 1 ≠ g by omega) (.int .i64 x.f0)) (p := ⟨g, 1, none⟩) (show g + 1 ≠ g by omega) (.slice A3 x.f1.length c3))
  replace HBv : Hid (Below w.heap.size w ((V2.setCell ⟨g, 0, none⟩ (.int .i64 x.f0)).setCell ⟨g, 1, none⟩ (.slice A3 x.f1.length c3))) := Lib.hid ((HBv.out.setCell (p := ⟨g, 0, none⟩) (show w.heap.size ≤ g by rw [← HG.out]; exact Nat.le_refl _) _).setCell (p := ⟨g, 1, none⟩) (show w.heap.size ≤ g by rw [← HG.out]; exact Nat.le_refl _) _)
  clear hK K x0 x1 z0 z1
  generalize ((V2.setCell ⟨g, 0, none⟩ (.int .i64 x.f0)).setCell ⟨g, 1, none⟩ (.slice A3 x.f1.length c3)) = V3 at *
  refine last_ (i := 5) (N := none) #[true, true, true, true, true, true] rfl rfl (by kernel_rfl) (by decide) (fun K hK => ?_)
  have x0 : V3.cell? ⟨(g + 1), 0, none⟩ = some (.int .i64 b.f0) := blk_at H1.out 0 rfl
  have z0 : V3.frozen? ⟨(g + 1), 0, none⟩ = false := blk_frozen H1.out 0
  have x1 : V3.cell? ⟨(g + 1), 1, none⟩ = some (.slice A2 b.f1.length c2) := blk_at H1.out 1 rfl
  have z1 : V3.frozen? ⟨(g + 1), 1, none⟩ = false := blk_frozen H1.out 1
  refine skip_ (w1 := ((V3.setCell ⟨(g + 1), 0, none⟩ (.int .i64 y.f0)).setCell ⟨(g + 1), 1, none⟩ (.slice A4 y.f1.length c4))) (by rfl) rfl (by go_simp) ?_
  refine hK.out _ _ ?_
  replace H1 := Lib.hid (blk_put (blk_put H1.out 0 (.int .i64 y.f0) rfl) 1 (.slice A4 y.f1.length c4) rfl)
  replace H0 := Lib.hid (blk_far (blk_far H0.out (p := ⟨(g + 1), 0, none⟩) (show g ≠ g + 1 by omega) (.int .i64 y.f0)) (p := ⟨(g + 1), 1, none⟩) (show g ≠ g + 1 by omega) (.slice A4 y.f1.length c4))
  replace HBv : Hid (Below w.heap.size w ((V3.setCell ⟨(g + 1), 0, none⟩ (.int .i64 y.f0)).setCell ⟨(g + 1), 1, none⟩ (.slice A4 y.f1.length c4))) := Lib.hid ((HBv.out.setCell (p := ⟨(g + 1), 0, none⟩) (show w.heap.size ≤ g + 1 by rw [← HG.out]; exact Nat.le_succ _) _).setCell (p := ⟨(g + 1), 1, none⟩) (show w.heap.size ≤ g + 1 by rw [← HG.out]; exact Nat.le_succ _) _)
  clear hK K x0 x1 z0 z1
  generalize ((V3.setCell ⟨(g + 1), 0, none⟩ (.int .i64 y.f0)).setCell ⟨(g + 1), 1, none⟩ (.slice A4 y.f1.length c4)) = v0 at *
  refine done_ (by kernel_rfl) ?_
  have HB0 := HBv
  clear HBd HBv1 HBv HSa HSb
  have HDF := Lib.hid (diffed FX.out FY.out).2
  have HP1 : Hid (∀ W, Below w.heap.size w W → Calls Try.prog 22 #[.agg #[.int .i64 x.f0, .slice A3 x.f1.length c3], .agg #[.int .i64 y.f0, .slice A4 y.f1.length c4]] W fun e' w' => DD (diffD x y) (diffE x y) W e' w') := Lib.hid (fun W h => (diffR22 x y A3 A4 c3 c4 W (Kd.C_below C3.out h) (Kd.C_below C4.out h)).mono (fun _ _ h => h.dd))
  have HFD := Lib.hid (diffD_fit FX.out FY.out)
  have HDT := Lib.hid (Diffed.there FX.out FY.out)
  have a0 : v0.cell? ⟨g, 0, none⟩ = some (.int .i64 x.f0) := blk_at H0.out 0 rfl
  have a1 : v0.cell? ⟨g, 1, none⟩ = some (.slice A3 x.f1.length c3) := blk_at H0.out 1 rfl
  have b0 : v0.cell? ⟨(g + 1), 0, none⟩ = some (.int .i64 y.f0) := blk_at H1.out 0 rfl
  have b1 : v0.cell? ⟨(g + 1), 1, none⟩ = some (.slice A4 y.f1.length c4) := blk_at H1.out 1 rfl
  generalize hz : diffD x y = d at HP1 HDF HFD HDT
  have X1 := Lib.hid hz
  clear hz
  generalize hz : diffE x y = m1 at HP1
  have M1 := Lib.hid hz
  clear hz
  go_upto_region 7 with (go_at_call 22; refine (HP1.out _ HB0.out).mono ?_; rintro e' u1 ⟨A5, c5, B5, k5, rfl, C1, G1, hb1, L1⟩
                         clear a0 a1 b0 b1)
  have HBu : Hid (Below v0.heap.size v0 (u1.alloc (.cells #[.int .i64 d.f0, .slice A5 d.f1.length c5, .slice B5 d.f2.length k5] 27))) := Lib.hid (hb1.out.alloc hb1.out.size _)
  replace C1 := Lib.hid (Kd.C_alloc C1.out (.cells #[.int .i64 d.f0, .slice A5 d.f1.length c5, .slice B5 d.f2.length k5] 27))
  replace G1 := Lib.hid (Kd.C_alloc G1.out (.cells #[.int .i64 d.f0, .slice A5 d.f1.length c5, .slice B5 d.f2.length k5] 27))
  have K1 := Lib.hid (blk_new u1 (.cells #[.int .i64 d.f0, .slice A5 d.f1.length c5, .slice B5 d.f2.length k5] 27))
  replace H0 := Lib.hid (blk_below H0.out HBu.out)
  replace H1 := Lib.hid (blk_below H1.out HBu.out)
  obtain ⟨b1, hbb⟩ : ∃ b, b = u1.heap.size := ⟨_, rfl⟩
  rw [← hbb] at K1 ⊢
  generalize u1.alloc (.cells #[.int .i64 d.f0, .slice A5 d.f1.length c5, .slice B5 d.f2.length k5] 27) = v1 at *
  have HB1 : Hid (Below w.heap.size w v1) := HB0.out.trans (HBu.out.mono HB0.out.size)
  have HS1 := HBu
  clear hbb hb1 HBu
  have q1 : m1 = 0 := by rw [← M1.out]; exact (diffed FX.out FY.out).1
  subst q1
  have H14 : Hid (Calls Try.prog 14 #[.agg #[.int .i64 d.f0, .slice A5 d.f1.length c5, .slice B5 d.f2.length k5]] v1 fun e w' => e = .returned (.int .i64 0) ∧ Hid (Below v1.heap.size v1 w')) := Lib.hid (by
    have := check14 d.f0 d.f1 d.f2 A5 B5 c5 k5 v1 C1.out G1.out
    rw [HFD.out] at this
    exact this)
  have p0 : v1.cell? ⟨b1, 0, none⟩ = some (.int .i64 d.f0) := blk_at K1.out 0 rfl
  have p1 : v1.cell? ⟨b1, 1, none⟩ = some (.slice A5 d.f1.length c5) := blk_at K1.out 1 rfl
  have p2 : v1.cell? ⟨b1, 2, none⟩ = some (.slice B5 d.f2.length k5) := blk_at K1.out 2 rfl
  have y0 : v1.cell? ⟨(g + 1), 0, none⟩ = some (.int .i64 y.f0) := blk_at H1.out 0 rfl
  have y1 : v1.cell? ⟨(g + 1), 1, none⟩ = some (.slice A4 y.f1.length c4) := blk_at H1.out 1 rfl
  have n1 : (d.f0 == y.f0) = true := by rw [HDF.out.num]; simp
  have n2 : (d.f0 != y.f0) = false := by rw [HDF.out.num]; simp
  go_upto_region 9 with (go_at_call 14; refine H14.out.mono ?_; rintro e' w7 ⟨rfl, hb7⟩
                         have HB7 := hb7
                         have N1 := Lib.hid (blk_below K1.out hb7.out)
                         have N2 := Lib.hid (blk_below H1.out hb7.out)
                         have s0 : w7.cell? ⟨b1, 0, none⟩ = some (.int .i64 d.f0) := blk_at N1.out 0 rfl
                         have s1 : w7.cell? ⟨b1, 1, none⟩ = some (.slice A5 d.f1.length c5) := blk_at N1.out 1 rfl
                         have s2 : w7.cell? ⟨b1, 2, none⟩ = some (.slice B5 d.f2.length k5) := blk_at N1.out 2 rfl
                         have r0 : w7.cell? ⟨(g + 1), 0, none⟩ = some (.int .i64 y.f0) := blk_at N2.out 0 rfl
                         have r1 : w7.cell? ⟨(g + 1), 1, none⟩ = some (.slice A4 y.f1.length c4) := blk_at N2.out 1 rfl
                         clear hb7 p0 p1 p2 y0 y1)
  clear n1 n2 s0 s1 s2 r0 r1 N1 N2
  replace H0 := Lib.hid (blk_below H0.out HB7.out)
  replace H1 := Lib.hid (blk_below H1.out HB7.out)
  replace K1 := Lib.hid (blk_below K1.out HB7.out)
  replace C1 := Lib.hid (Kd.C_below C1.out HB7.out)
  replace G1 := Lib.hid (Kd.C_below G1.out HB7.out)
  have HBs : Hid (Below w.heap.size w w7) := HB1.out.trans (HB7.out.mono HB1.out.size)
  have HP2 : Hid (Calls Try.prog 15 #[.agg #[.int .i64 x.f0, .slice A3 x.f1.length c3], .agg #[.int .i64 d.f0, .slice A5 d.f1.length c5, .slice B5 d.f2.length k5]] w7 fun e' w' => SA (applyS x d) (applyE x d) w7 e' w') := Lib.hid ((applyR15 x d A3 A5 B5 c3 c5 k5 w7 (Kd.C_below C3.out HBs.out) C1.out G1.out L3.out L1.out.1).mono (fun _ _ h => h.sa))
  have a0 : w7.cell? ⟨g, 0, none⟩ = some (.int .i64 x.f0) := blk_at H0.out 0 rfl
  have a1 : w7.cell? ⟨g, 1, none⟩ = some (.slice A3 x.f1.length c3) := blk_at H0.out 1 rfl
  have r0 : w7.cell? ⟨b1, 0, none⟩ = some (.int .i64 d.f0) := blk_at K1.out 0 rfl
  have r1 : w7.cell? ⟨b1, 1, none⟩ = some (.slice A5 d.f1.length c5) := blk_at K1.out 1 rfl
  have r2 : w7.cell? ⟨b1, 2, none⟩ = some (.slice B5 d.f2.length k5) := blk_at K1.out 2 rfl
  generalize hz : applyS x d = t at HP2
  have X2 := Lib.hid hz
  clear hz
  generalize hz : applyE x d = m2 at HP2
  have M2 := Lib.hid hz
  clear hz
  go_upto_region 10 with (go_at_call 15; refine HP2.out.mono ?_; rintro e' u2 ⟨A6, c6, rfl, C2, hb2, L2⟩
                          clear a0 a1 r0 r1 r2)
  have HBu : Hid (Below w7.heap.size w7 (u2.alloc (.cells #[.int .i64 t.f0, .slice A6 t.f1.length c6] 24))) := Lib.hid (hb2.out.alloc hb2.out.size _)
  replace C2 := Lib.hid (Kd.C_alloc C2.out (.cells #[.int .i64 t.f0, .slice A6 t.f1.length c6] 24))
  have K2 := Lib.hid (blk_new u2 (.cells #[.int .i64 t.f0, .slice A6 t.f1.length c6] 24))
  replace H0 := Lib.hid (blk_below H0.out HBu.out)
  replace H1 := Lib.hid (blk_below H1.out HBu.out)
  replace K1 := Lib.hid (blk_below K1.out HBu.out)
  obtain ⟨b2, hbb⟩ : ∃ b, b = u2.heap.size := ⟨_, rfl⟩
  rw [← hbb] at K2 ⊢
  generalize u2.alloc (.cells #[.int .i64 t.f0, .slice A6 t.f1.length c6] 24) = v2 at *
  have HB2 : Hid (Below w.heap.size w v2) := HBs.out.trans (HBu.out.mono HBs.out.size)
  have HS2 := HBu
  clear hbb hb2 HBu
  have q2 : m2 = 0 := by rw [← M2.out]; exact HDT.out.1
  have q3 : t = y := by rw [← X2.out]; exact HDT.out.2
  subst q2
  have HE := Lib.hid q3
  clear q3
  replace C1 := Lib.hid (Kd.C_below C1.out HS2.out)
  replace G1 := Lib.hid (Kd.C_below G1.out HS2.out)
  have H18 : Hid (Calls Try.prog 18 #[.agg #[.int .i64 t.f0, .slice A6 t.f1.length c6], .agg #[.int .i64 y.f0, .slice A4 y.f1.length c4]] v2 fun e' w' => SaysB true v2 e' w') := Lib.hid (by
    have := sameS18 t y A6 A4 c6 c4 v2 v2 C2.out (Kd.C_below C4.out HB2.out) (Below.refl _ _)
    rw [eqB_true HE.out] at this
    exact this)
  have p0 : v2.cell? ⟨b2, 0, none⟩ = some (.int .i64 t.f0) := blk_at K2.out 0 rfl
  have p1 : v2.cell? ⟨b2, 1, none⟩ = some (.slice A6 t.f1.length c6) := blk_at K2.out 1 rfl
  have y0 : v2.cell? ⟨(g + 1), 0, none⟩ = some (.int .i64 y.f0) := blk_at H1.out 0 rfl
  have y1 : v2.cell? ⟨(g + 1), 1, none⟩ = some (.slice A4 y.f1.length c4) := blk_at H1.out 1 rfl
  go_upto_region 12 with (go_at_call 18; refine H18.out.mono ?_; rintro e' vL ⟨rfl, hb5⟩
                          have HB5 := hb5
                          clear hb5 p0 p1 y0 y1)
  replace H0 := Lib.hid (blk_below H0.out HB5.out)
  replace H1 := Lib.hid (blk_below H1.out HB5.out)
  replace K1 := Lib.hid (blk_below K1.out HB5.out)
  replace C1 := Lib.hid (Kd.C_below C1.out HB5.out)
  replace G1 := Lib.hid (Kd.C_below G1.out HB5.out)
  have HBL : Hid (Below w.heap.size w vL) := HB2.out.trans (HB5.out.mono HB2.out.size)
  clear H18 HP1 HP2 H14 HB5 HB7 HBs HB0 HB1 HB2 HB3 HS1 HS2 K2 C2 L2 X2 M2 M1 X1 HE
  obtain ⟨n1, hn1⟩ : ∃ n, n = d.f1.length := ⟨_, rfl⟩
  obtain ⟨n2, hn2⟩ : ∃ n, n = d.f2.length := ⟨_, rfl⟩
  have hl1 : n1 ≤ 64 := by rw [hn1]; exact (chkS_ok (chkD_ok HFD.out).1).1
  have hl2 : n2 ≤ 64 := by rw [hn2]; exact (chkD_ok HFD.out).2.1
  have Hn1 := Lib.hid hn1
  have Hn2 := Lib.hid hn2
  have hw : IntKind.i64.wrap ((n1 : Int) + (n2 : Int)) = ((n1 + n2 : Nat) : Int) := by rw [IntKind.wrap_i64] <;> omega
  have HBr : Hid (Below vL.heap.size vL vL) := Lib.hid (Below.refl _ _)
  go_wp2_with (fail)
  go_loopw [9, 10, 11] (fun v9 _ _ wr => ∃ k : Nat, k ≤ n1 + n2 ∧ v9 = .int .i64 k ∧ Hid (Below vL.heap.size vL wr)) (fun v9 _ _ _ => n1 + n2 - (intOf v9).toNat)
  case atStart => exact ⟨0, Nat.zero_le _, rfl, HBr⟩
  case round =>
    clear HBr
    obtain ⟨k, hk, rfl, HBk⟩ := hrel
    have HK0 := Lib.hid (blk_below H0.out HBk.out)
    have HKd := Lib.hid (blk_below K1.out HBk.out)
    have p1 : wr.cell? ⟨b1, 1, none⟩ = some (.slice A5 n1 c5) := by rw [hn1]; exact blk_at HKd.out 1 rfl
    have p2 : wr.cell? ⟨b1, 2, none⟩ = some (.slice B5 n2 k5) := by rw [hn2]; exact blk_at HKd.out 2 rfl
    clear hn1 hn2
    by_cases hlt : k < n1 + n2
    · have hlt2 : (k : Int) < ((n1 + n2 : Nat) : Int) := by omega
      go_upto_region 15 with (fail)
      clear p1 p2 hlt2
      have HP26 : Hid (∀ W, Below vL.heap.size vL W → Calls Try.prog 26 #[.agg #[.int .i64 d.f0, .slice A5 d.f1.length c5, .slice B5 d.f2.length k5], .int .i64 k] W fun e' w' => DR (withoutD d k) W e' w') := Lib.hid (fun W h => without26 d k A5 B5 c5 k5 W (Kd.C_below C1.out h) (Kd.C_below G1.out h) (by rw [← Hn1.out]; omega) (by rw [← Hn2.out]; omega))
      generalize hz : withoutD d k = dw at HP26
      have XW := Lib.hid hz
      clear hz
      have HP15 : Hid (∀ W (A7 B7 : Option Addr) (c7 k7 : Nat), Below w.heap.size w W → Kd.C k63 W A7 dw.f1.length dw.f1 → Kd.C Kd.string W B7 dw.f2.length dw.f2 → dw.f1.length ≤ c7 → Calls Try.prog 15 #[.agg #[.int .i64 x.f0, .slice A3 x.f1.length c3], .agg #[.int .i64 dw.f0, .slice A7 dw.f1.length c7, .slice B7 dw.f2.length k7]] W fun e' w' => SAR (applyS x dw) (applyE x dw) W e' w') := Lib.hid (fun W A7 B7 c7 k7 h hc hg hl => applyR15 x dw A3 A7 B7 c3 c7 k7 W (Kd.C_below C3.out h) hc hg L3.out hl)
      generalize hz : applyS x dw = t2 at HP15
      have X8 := Lib.hid hz
      clear hz
      generalize hz : applyE x dw = m4 at HP15
      have M8 := Lib.hid hz
      clear hz
      refine start_ (n := 11) (S := (fun w' => w'.cell? ⟨g, 0, none⟩ = some (.int .i64 x.f0) ∧ w'.cell? ⟨g, 1, none⟩ = some (.slice A3 x.f1.length c3) ∧ w'.cell? ⟨b1, 0, none⟩ = some (.int .i64 d.f0) ∧ w'.cell? ⟨b1, 1, none⟩ = some (.slice A5 d.f1.length c5) ∧ w'.cell? ⟨b1, 2, none⟩ = some (.slice B5 d.f2.length k5))) (ds := [9]) #[false, false, false, false, false, false, false, false, false, false, false] (by kernel_rfl) rfl rfl ⟨blk_at HK0.out 0 rfl, blk_at HK0.out 1 rfl, blk_at HKd.out 0 rfl, blk_at HKd.out 1 rfl, blk_at HKd.out 2 rfl⟩ (fun hHeld => ?_)
      have HV0 : Hid (Below wr.heap.size wr wr.drew) := (Below.refl _ _).drew
      generalize wr.drew = V0 at hHeld HV0  ⊢
      refine take_ (i := 0) (N := some 71) (v := ?_) (a' := ?_) #[true, false, false, false, false, false, false, false, false, false, false] rfl rfl (by kernel_rfl) (fun _ _ _ h => h) (Or.inl ⟨by rfl, ?_⟩) hHeld ?_ ?_
      rotate_left
      · rintro w' ⟨s0, s1, s2, s3, s4⟩
        go_simp
        with_reducible rfl
      rotate_left
      · simp only [Act.put, List.setIfInBounds_toArray, List.set_cons_zero, List.set_cons_succ]
        rfl
      refine take_ (i := 1) (N := some 72) (v := ?_) (a' := ?_) #[true, true, false, false, false, false, false, false, false, false, false] rfl rfl (by kernel_rfl) (fun _ _ _ h => h) (Or.inl ⟨by rfl, ?_⟩) hHeld ?_ ?_
      rotate_left
      · rintro w' ⟨s0, s1, s2, s3, s4⟩
        go_simp
        with_reducible rfl
      rotate_left
      · simp only [Act.put, List.setIfInBounds_toArray, List.set_cons_zero, List.set_cons_succ]
        rfl
      refine pure_ (i := 2) (N := some 73) (v := ?_) (a' := ?_) #[true, true, true, false, false, false, false, false, false, false, false] rfl rfl (by kernel_rfl) (fun _ _ _ h => h) (Or.inl ⟨by rfl, ?_⟩) ?_ ?_
      rotate_left
      · intro w'
        go_simp
        with_reducible rfl
      rotate_left
      · simp only [Act.put, List.setIfInBounds_toArray, List.set_cons_zero, List.set_cons_succ]
        rfl
      refine two_ (i := 3) (j := 8) (Ni := some 74) (Nj := some 10) #[true, true, true, true, false, false, false, false, false, false, false] #[true, true, true, false, false, false, false, false, true, false, false] rfl rfl rfl rfl (by kernel_rfl) (by decide) (by decide) (fun K hK => ?_) (fun K hK => ?_)
      · refine goes_ Try.func26 (by kernel_rfl) rfl #[.agg #[.int .i64 d.f0, .slice A5 d.f1.length c5, .slice B5 d.f2.length k5], .int .i64 k] (by rfl) rfl rfl (by simp only [List.map_toArray, List.map_cons, List.map_nil]; rfl) ?_
        refine ((HP26.out V0 (HBk.out.trans (HV0.out.mono HBk.out.size)))).mono ?_
        rintro e' V1 ⟨A7, c7, B7, k7, rfl, C7, G7, hb, L7⟩
        refine ⟨_, rfl, ?_⟩
        have HV1 : Hid (Below wr.heap.size wr V1) := HV0.out.trans (hb.out.mono HV0.out.size)
        refine hK.out _ _ ⟨pw_cell_below hb.out hHeld.1, pw_cell_below hb.out hHeld.2.1, pw_cell_below hb.out hHeld.2.2.1, pw_cell_below hb.out hHeld.2.2.2.1, pw_cell_below hb.out hHeld.2.2.2.2⟩ (fun hHeld => ?_)
        clear hK K hb
        refine norm_ (a' := ?_) ?_ ?_
        rotate_left
        · show Act.put _ (some 74) _ = _
          simp only [Act.put, List.setIfInBounds_toArray, List.set_cons_zero, List.set_cons_succ]
          rfl
        refine two_ (i := 4) (j := 8) (Ni := some 75) (Nj := some 10) #[true, true, true, true, true, false, false, false, false, false, false] #[true, true, true, true, false, false, false, false, true, false, false] rfl rfl rfl rfl (by kernel_rfl) (by decide) (by decide) (fun K hK => ?_) (fun K hK => ?_)
        · refine goes_ Try.func15 (by kernel_rfl) rfl #[.agg #[.int .i64 x.f0, .slice A3 x.f1.length c3], .agg #[.int .i64 dw.f0, .slice A7 dw.f1.length c7, .slice B7 dw.f2.length k7]] (by rfl) rfl rfl (by simp only [List.map_toArray, List.map_cons, List.map_nil]; rfl) ?_
          refine ((HP15.out V1 _ _ _ _ (HBL.out.trans (HBk.out.trans (HV1.out.mono HBk.out.size) |>.mono HBL.out.size)) C7.out G7.out L7.out.1)).mono ?_
          rintro e' V2 ⟨A8, c8, rfl, R8, hb⟩
          refine ⟨_, rfl, ?_⟩
          replace C7 := Lib.hid (Kd.C_below C7.out hb.out)
          replace G7 := Lib.hid (Kd.C_below G7.out hb.out)
          have HV2 : Hid (Below wr.heap.size wr V2) := HV1.out.trans (hb.out.mono HV1.out.size)
          refine hK.out _ _ ⟨pw_cell_below hb.out hHeld.1, pw_cell_below hb.out hHeld.2.1, pw_cell_below hb.out hHeld.2.2.1, pw_cell_below hb.out hHeld.2.2.2.1, pw_cell_below hb.out hHeld.2.2.2.2⟩ (fun hHeld => ?_)
          clear hK K hb
          refine norm_ (a' := ?_) ?_ ?_
          rotate_left
          · show Act.put _ (some 75) _ = _
            simp only [Act.put, List.setIfInBounds_toArray, List.set_cons_zero, List.set_cons_succ]
            rfl
          refine pure_ (i := 5) (N := some 70) (v := ?_) (a' := ?_) #[true, true, true, true, true, true, false, false, false, false, false] rfl rfl (by kernel_rfl) (fun _ _ _ h => h) (Or.inl ⟨by rfl, ?_⟩) ?_ ?_
          rotate_left
          · intro w'
            go_simp
            with_reducible rfl
          rotate_left
          · simp only [Act.put, List.setIfInBounds_toArray, List.set_cons_zero, List.set_cons_succ]
            rfl
          refine pure_ (i := 6) (N := some 76) (v := ?_) (a' := ?_) #[true, true, true, true, true, true, true, false, false, false, false] rfl rfl (by kernel_rfl) (fun _ _ _ h => h) (Or.inl ⟨by rfl, ?_⟩) ?_ ?_
          rotate_left
          · intro w'
            go_simp
            with_reducible rfl
          rotate_left
          · simp only [Act.put, List.setIfInBounds_toArray, List.set_cons_zero, List.set_cons_succ]
            rfl
          refine pure_ (i := 7) (N := some 77) (v := ?_) (a' := ?_) #[true, true, true, true, true, true, true, true, false, false, false] rfl rfl (by kernel_rfl) (fun _ _ _ h => h) (Or.inl ⟨by rfl, ?_⟩) ?_ ?_
          rotate_left
          · intro w'
            go_simp
            with_reducible rfl
          rotate_left
          · simp only [Act.put, List.setIfInBounds_toArray, List.set_cons_zero, List.set_cons_succ]
            rfl
          refine one_ (i := 8) (N := some 10) #[true, true, true, true, true, true, true, true, true, false, false] rfl rfl (by kernel_rfl) (by decide) (fun K hK => ?_)
          obtain ⟨nb, hnb⟩ : ∃ nb, nb = V2.heap.size := ⟨_, rfl⟩
          refine value_ (w1 := (V2.alloc (.cells #[.int .i64 0, .slice none 0 0] 24))) (v := .pointer (some ⟨nb, 0, none⟩)) (by rfl) rfl (by rw [hnb]; go_simp) ?_
          have hal : Hid (Below V2.heap.size V2 (V2.alloc (.cells #[.int .i64 0, .slice none 0 0] 24))) := Lib.hid ((Below.refl _ _).alloc (Nat.le_refl _) _)
          have HN9 : Hid ((V2.alloc (.cells #[.int .i64 0, .slice none 0 0] 24)).heap[nb]? = some (.cells #[.int .i64 0, .slice none 0 0] 24 (0, 0))) := by rw [hnb]; exact Lib.hid (blk_new _ _)
          have hnb9 : Hid (wr.heap.size ≤ nb) := by rw [hnb]; exact Lib.hid HV2.out.size
          refine hK.out _ _ ⟨pw_cell_below hal.out hHeld.1, pw_cell_below hal.out hHeld.2.1, pw_cell_below hal.out hHeld.2.2.1, pw_cell_below hal.out hHeld.2.2.2.1, pw_cell_below hal.out hHeld.2.2.2.2⟩ (fun hHeld => ?_)
          clear hK K hnb
          generalize (V2.alloc (.cells #[.int .i64 0, .slice none 0 0] 24)) = V3 at hHeld hal HN9 ⊢
          replace C7 := Lib.hid (Kd.C_below C7.out hal.out)
          replace G7 := Lib.hid (Kd.C_below G7.out hal.out)
          replace R8 := Lib.hid (Kd.R_below R8.out hal.out)
          have HV3 : Hid (Below wr.heap.size wr V3) := HV2.out.trans (hal.out.mono HV2.out.size)
          clear hal
          refine norm_ (a' := ?_) ?_ ?_
          rotate_left
          · show Act.put _ (some 10) _ = _
            simp only [Act.put, List.setIfInBounds_toArray, List.set_cons_zero, List.set_cons_succ]
            rfl
          refine last_ (i := 9) (N := none) #[true, true, true, true, true, true, true, true, true, true, false] rfl rfl (by kernel_rfl) (by decide) (fun K hK => ?_)
          have x0 : V3.cell? ⟨nb, 0, none⟩ = some (.int .i64 0) := blk_at HN9.out 0 rfl
          have z0 : V3.frozen? ⟨nb, 0, none⟩ = false := blk_frozen HN9.out 0
          have x1 : V3.cell? ⟨nb, 1, none⟩ = some (.slice none 0 0) := blk_at HN9.out 1 rfl
          have z1 : V3.frozen? ⟨nb, 1, none⟩ = false := blk_frozen HN9.out 1
          refine skip_ (w1 := ((V3.setCell ⟨nb, 0, none⟩ (.int .i64 t2.f0)).setCell ⟨nb, 1, none⟩ (.slice A8 t2.f1.length c8))) (by rfl) rfl (by go_simp) ?_
          refine hK.out _ _ ?_
          have R8' := Lib.hid (Kd.R_set (Kd.R_set R8.out HN9.out (by decide) 0 (.int .i64 t2.f0)) (blk_put HN9.out 0 (.int .i64 t2.f0) rfl) (by decide) 1 (.slice A8 t2.f1.length c8))
          have HN9' := Lib.hid (blk_put (blk_put HN9.out 0 (.int .i64 t2.f0) rfl) 1 (.slice A8 t2.f1.length c8) rfl)
          have HB9 : Hid (Below wr.heap.size wr ((V3.setCell ⟨nb, 0, none⟩ (.int .i64 t2.f0)).setCell ⟨nb, 1, none⟩ (.slice A8 t2.f1.length c8))) := Lib.hid ((HV3.out.setCell (p := ⟨nb, 0, none⟩) hnb9.out _).setCell (p := ⟨nb, 1, none⟩) hnb9.out _)
          clear hK K hHeld x0 z0 x1 z1 C7 G7 R8 HN9 HV0 HV1 HV2 HV3
          generalize ((V3.setCell ⟨nb, 0, none⟩ (.int .i64 t2.f0)).setCell ⟨nb, 1, none⟩ (.slice A8 t2.f1.length c8)) = W9 at *
          refine pure_ (i := 10) (N := some 11) (v := ?_) (a' := ?_) #[true, true, true, true, true, true, true, true, true, true, true] rfl rfl (by kernel_rfl) (fun _ _ _ h => h) (Or.inl ⟨by rfl, ?_⟩) ?_ ?_
          rotate_left
          · intro w'
            go_simp
            with_reducible rfl
          rotate_left
          · simp only [Act.put, List.setIfInBounds_toArray, List.set_cons_zero, List.set_cons_succ]
            rfl
          refine done_ (by kernel_rfl) ?_
          replace H0 := Lib.hid (blk_below H0.out (HBk.out.trans (HB9.out.mono HBk.out.size)))
          replace H1 := Lib.hid (blk_below H1.out (HBk.out.trans (HB9.out.mono HBk.out.size)))
          have HBe : Hid (Below vL.heap.size vL W9) := HBk.out.trans (HB9.out.mono HBk.out.size)
          have r8 := Kd.R_reads' R8'.out
          have C8' := Lib.hid r8.2.2
          clear r8 R8'
          by_cases q4 : m4 = 0
          rotate_left
          · have n4 : (m4 == 0) = false := beq_false_of_ne q4
            clear q4
            go_wp2_with (fail)
            go_roundw
            case rel => exact ⟨k + 1, by omega, by go_num, HBe⟩
            case measure => simp [intOf]; omega
          have HNE : Hid (¬ t2 = y) := Lib.hid (by
            have h0 := M8.out
            rw [q4] at h0
            rw [← X8.out]
            rw [← XW.out] at h0 ⊢
            exact without_not HDF.out (by rw [← Hn1.out, ← Hn2.out]; exact hlt) h0)
          subst q4
          have H18 : Hid (Calls Try.prog 18 #[.agg #[.int .i64 t2.f0, .slice A8 t2.f1.length c8], .agg #[.int .i64 y.f0, .slice A4 y.f1.length c4]] W9 fun e' w' => SaysB false W9 e' w') := Lib.hid (by
            have := sameS18 t2 y A8 A4 c8 c4 W9 W9 C8'.out (Kd.C_below C4.out (HBL.out.trans (HBe.out.mono HBL.out.size))) (Below.refl _ _)
            rw [eqB_false HNE.out] at this
            exact this)
          have n0 : W9.cell? ⟨nb, 0, none⟩ = some (.int .i64 t2.f0) := blk_at HN9'.out 0 rfl
          have n1 : W9.cell? ⟨nb, 1, none⟩ = some (.slice A8 t2.f1.length c8) := blk_at HN9'.out 1 rfl
          have y0 : W9.cell? ⟨(g + 1), 0, none⟩ = some (.int .i64 y.f0) := blk_at H1.out 0 rfl
          have y1 : W9.cell? ⟨(g + 1), 1, none⟩ = some (.slice A4 y.f1.length c4) := blk_at H1.out 1 rfl
          go_wp2_with (go_at_call 18; refine H18.out.mono ?_; rintro e' w5 ⟨rfl, hb5⟩
                       have HB5 : Hid (Below vL.heap.size vL w5) := HBe.out.trans (hb5.out.mono HBe.out.size)
                       clear hb5 n0 n1 y0 y1)
          go_roundw
          case rel => exact ⟨k + 1, by omega, by go_num, HB5⟩
          case measure => simp [intOf]; omega
        · obtain ⟨nb, hnb⟩ : ∃ nb, nb = V1.heap.size := ⟨_, rfl⟩
          refine value_ (w1 := (V1.alloc (.cells #[.int .i64 0, .slice none 0 0] 24))) (v := .pointer (some ⟨nb, 0, none⟩)) (by rfl) rfl (by rw [hnb]; go_simp) ?_
          have hal : Hid (Below V1.heap.size V1 (V1.alloc (.cells #[.int .i64 0, .slice none 0 0] 24))) := Lib.hid ((Below.refl _ _).alloc (Nat.le_refl _) _)
          have HN9 : Hid ((V1.alloc (.cells #[.int .i64 0, .slice none 0 0] 24)).heap[nb]? = some (.cells #[.int .i64 0, .slice none 0 0] 24 (0, 0))) := by rw [hnb]; exact Lib.hid (blk_new _ _)
          have hnb9 : Hid (wr.heap.size ≤ nb) := by rw [hnb]; exact Lib.hid HV1.out.size
          refine hK.out _ _ ⟨pw_cell_below hal.out hHeld.1, pw_cell_below hal.out hHeld.2.1, pw_cell_below hal.out hHeld.2.2.1, pw_cell_below hal.out hHeld.2.2.2.1, pw_cell_below hal.out hHeld.2.2.2.2⟩ (fun hHeld => ?_)
          clear hK K hnb
          generalize (V1.alloc (.cells #[.int .i64 0, .slice none 0 0] 24)) = V2 at hHeld hal HN9 ⊢
          replace C7 := Lib.hid (Kd.C_below C7.out hal.out)
          replace G7 := Lib.hid (Kd.C_below G7.out hal.out)
          have HV2 : Hid (Below wr.heap.size wr V2) := HV1.out.trans (hal.out.mono HV1.out.size)
          clear hal
          refine norm_ (a' := ?_) ?_ ?_
          rotate_left
          · show Act.put _ (some 10) _ = _
            simp only [Act.put, List.setIfInBounds_toArray, List.set_cons_zero, List.set_cons_succ]
            rfl
          refine one_ (i := 4) (N := some 75) #[true, true, true, true, true, false, false, false, true, false, false] rfl rfl (by kernel_rfl) (by decide) (fun K hK => ?_)
          refine goes_ Try.func15 (by kernel_rfl) rfl #[.agg #[.int .i64 x.f0, .slice A3 x.f1.length c3], .agg #[.int .i64 dw.f0, .slice A7 dw.f1.length c7, .slice B7 dw.f2.length k7]] (by rfl) rfl rfl (by simp only [List.map_toArray, List.map_cons, List.map_nil]; rfl) ?_
          refine ((HP15.out V2 _ _ _ _ (HBL.out.trans (HBk.out.trans (HV2.out.mono HBk.out.size) |>.mono HBL.out.size)) C7.out G7.out L7.out.1)).mono ?_
          rintro e' V3 ⟨A8, c8, rfl, R8, hb⟩
          refine ⟨_, rfl, ?_⟩
          replace C7 := Lib.hid (Kd.C_below C7.out hb.out)
          replace G7 := Lib.hid (Kd.C_below G7.out hb.out)
          replace HN9 := Lib.hid (blk_below HN9.out hb.out)
          have HV3 : Hid (Below wr.heap.size wr V3) := HV2.out.trans (hb.out.mono HV2.out.size)
          refine hK.out _ _ ⟨pw_cell_below hb.out hHeld.1, pw_cell_below hb.out hHeld.2.1, pw_cell_below hb.out hHeld.2.2.1, pw_cell_below hb.out hHeld.2.2.2.1, pw_cell_below hb.out hHeld.2.2.2.2⟩ (fun hHeld => ?_)
          clear hK K hb
          refine norm_ (a' := ?_) ?_ ?_
          rotate_left
          · show Act.put _ (some 75) _ = _
            simp only [Act.put, List.setIfInBounds_toArray, List.set_cons_zero, List.set_cons_succ]
            rfl
          refine pure_ (i := 5) (N := some 70) (v := ?_) (a' := ?_) #[true, true, true, true, true, true, false, false, true, false, false] rfl rfl (by kernel_rfl) (fun _ _ _ h => h) (Or.inl ⟨by rfl, ?_⟩) ?_ ?_
          rotate_left
          · intro w'
            go_simp
            with_reducible rfl
          rotate_left
          · simp only [Act.put, List.setIfInBounds_toArray, List.set_cons_zero, List.set_cons_succ]
            rfl
          refine pure_ (i := 6) (N := some 76) (v := ?_) (a' := ?_) #[true, true, true, true, true, true, true, false, true, false, false] rfl rfl (by kernel_rfl) (fun _ _ _ h => h) (Or.inl ⟨by rfl, ?_⟩) ?_ ?_
          rotate_left
          · intro w'
            go_simp
            with_reducible rfl
          rotate_left
          · simp only [Act.put, List.setIfInBounds_toArray, List.set_cons_zero, List.set_cons_succ]
            rfl
          refine pure_ (i := 7) (N := some 77) (v := ?_) (a' := ?_) #[true, true, true, true, true, true, true, true, true, false, false] rfl rfl (by kernel_rfl) (fun _ _ _ h => h) (Or.inl ⟨by rfl, ?_⟩) ?_ ?_
          rotate_left
          · intro w'
            go_simp
            with_reducible rfl
          rotate_left
          · simp only [Act.put, List.setIfInBounds_toArray, List.set_cons_zero, List.set_cons_succ]
            rfl
          refine last_ (i := 9) (N := none) #[true, true, true, true, true, true, true, true, true, true, false] rfl rfl (by kernel_rfl) (by decide) (fun K hK => ?_)
          have x0 : V3.cell? ⟨nb, 0, none⟩ = some (.int .i64 0) := blk_at HN9.out 0 rfl
          have z0 : V3.frozen? ⟨nb, 0, none⟩ = false := blk_frozen HN9.out 0
          have x1 : V3.cell? ⟨nb, 1, none⟩ = some (.slice none 0 0) := blk_at HN9.out 1 rfl
          have z1 : V3.frozen? ⟨nb, 1, none⟩ = false := blk_frozen HN9.out 1
          refine skip_ (w1 := ((V3.setCell ⟨nb, 0, none⟩ (.int .i64 t2.f0)).setCell ⟨nb, 1, none⟩ (.slice A8 t2.f1.length c8))) (by rfl) rfl (by go_simp) ?_
          refine hK.out _ _ ?_
          have R8' := Lib.hid (Kd.R_set (Kd.R_set R8.out HN9.out (by decide) 0 (.int .i64 t2.f0)) (blk_put HN9.out 0 (.int .i64 t2.f0) rfl) (by decide) 1 (.slice A8 t2.f1.length c8))
          have HN9' := Lib.hid (blk_put (blk_put HN9.out 0 (.int .i64 t2.f0) rfl) 1 (.slice A8 t2.f1.length c8) rfl)
          have HB9 : Hid (Below wr.heap.size wr ((V3.setCell ⟨nb, 0, none⟩ (.int .i64 t2.f0)).setCell ⟨nb, 1, none⟩ (.slice A8 t2.f1.length c8))) := Lib.hid ((HV3.out.setCell (p := ⟨nb, 0, none⟩) hnb9.out _).setCell (p := ⟨nb, 1, none⟩) hnb9.out _)
          clear hK K hHeld x0 z0 x1 z1 C7 G7 R8 HN9 HV0 HV1 HV2 HV3
          generalize ((V3.setCell ⟨nb, 0, none⟩ (.int .i64 t2.f0)).setCell ⟨nb, 1, none⟩ (.slice A8 t2.f1.length c8)) = W9 at *
          refine pure_ (i := 10) (N := some 11) (v := ?_) (a' := ?_) #[true, true, true, true, true, true, true, true, true, true, true] rfl rfl (by kernel_rfl) (fun _ _ _ h => h) (Or.inl ⟨by rfl, ?_⟩) ?_ ?_
          rotate_left
          · intro w'
            go_simp
            with_reducible rfl
          rotate_left
          · simp only [Act.put, List.setIfInBounds_toArray, List.set_cons_zero, List.set_cons_succ]
            rfl
          refine done_ (by kernel_rfl) ?_
          replace H0 := Lib.hid (blk_below H0.out (HBk.out.trans (HB9.out.mono HBk.out.size)))
          replace H1 := Lib.hid (blk_below H1.out (HBk.out.trans (HB9.out.mono HBk.out.size)))
          have HBe : Hid (Below vL.heap.size vL W9) := HBk.out.trans (HB9.out.mono HBk.out.size)
          have r8 := Kd.R_reads' R8'.out
          have C8' := Lib.hid r8.2.2
          clear r8 R8'
          by_cases q4 : m4 = 0
          rotate_left
          · have n4 : (m4 == 0) = false := beq_false_of_ne q4
            clear q4
            go_wp2_with (fail)
            go_roundw
            case rel => exact ⟨k + 1, by omega, by go_num, HBe⟩
            case measure => simp [intOf]; omega
          have HNE : Hid (¬ t2 = y) := Lib.hid (by
            have h0 := M8.out
            rw [q4] at h0
            rw [← X8.out]
            rw [← XW.out] at h0 ⊢
            exact without_not HDF.out (by rw [← Hn1.out, ← Hn2.out]; exact hlt) h0)
          subst q4
          have H18 : Hid (Calls Try.prog 18 #[.agg #[.int .i64 t2.f0, .slice A8 t2.f1.length c8], .agg #[.int .i64 y.f0, .slice A4 y.f1.length c4]] W9 fun e' w' => SaysB false W9 e' w') := Lib.hid (by
            have := sameS18 t2 y A8 A4 c8 c4 W9 W9 C8'.out (Kd.C_below C4.out (HBL.out.trans (HBe.out.mono HBL.out.size))) (Below.refl _ _)
            rw [eqB_false HNE.out] at this
            exact this)
          have n0 : W9.cell? ⟨nb, 0, none⟩ = some (.int .i64 t2.f0) := blk_at HN9'.out 0 rfl
          have n1 : W9.cell? ⟨nb, 1, none⟩ = some (.slice A8 t2.f1.length c8) := blk_at HN9'.out 1 rfl
          have y0 : W9.cell? ⟨(g + 1), 0, none⟩ = some (.int .i64 y.f0) := blk_at H1.out 0 rfl
          have y1 : W9.cell? ⟨(g + 1), 1, none⟩ = some (.slice A4 y.f1.length c4) := blk_at H1.out 1 rfl
          go_wp2_with (go_at_call 18; refine H18.out.mono ?_; rintro e' w5 ⟨rfl, hb5⟩
                       have HB5 : Hid (Below vL.heap.size vL w5) := HBe.out.trans (hb5.out.mono HBe.out.size)
                       clear hb5 n0 n1 y0 y1)
          go_roundw
          case rel => exact ⟨k + 1, by omega, by go_num, HB5⟩
          case measure => simp [intOf]; omega
      · obtain ⟨nb, hnb⟩ : ∃ nb, nb = V0.heap.size := ⟨_, rfl⟩
        refine value_ (w1 := (V0.alloc (.cells #[.int .i64 0, .slice none 0 0] 24))) (v := .pointer (some ⟨nb, 0, none⟩)) (by rfl) rfl (by rw [hnb]; go_simp) ?_
        have hal : Hid (Below V0.heap.size V0 (V0.alloc (.cells #[.int .i64 0, .slice none 0 0] 24))) := Lib.hid ((Below.refl _ _).alloc (Nat.le_refl _) _)
        have HN9 : Hid ((V0.alloc (.cells #[.int .i64 0, .slice none 0 0] 24)).heap[nb]? = some (.cells #[.int .i64 0, .slice none 0 0] 24 (0, 0))) := by rw [hnb]; exact Lib.hid (blk_new _ _)
        have hnb9 : Hid (wr.heap.size ≤ nb) := by rw [hnb]; exact Lib.hid HV0.out.size
        refine hK.out _ _ ⟨pw_cell_below hal.out hHeld.1, pw_cell_below hal.out hHeld.2.1, pw_cell_below hal.out hHeld.2.2.1, pw_cell_below hal.out hHeld.2.2.2.1, pw_cell_below hal.out hHeld.2.2.2.2⟩ (fun hHeld => ?_)
        clear hK K hnb
        generalize (V0.alloc (.cells #[.int .i64 0, .slice none 0 0] 24)) = V1 at hHeld hal HN9 ⊢
        have HV1 : Hid (Below wr.heap.size wr V1) := HV0.out.trans (hal.out.mono HV0.out.size)
        clear hal
        refine norm_ (a' := ?_) ?_ ?_
        rotate_left
        · show Act.put _ (some 10) _ = _
          simp only [Act.put, List.setIfInBounds_toArray, List.set_cons_zero, List.set_cons_succ]
          rfl
        refine one_ (i := 3) (N := some 74) #[true, true, true, true, false, false, false, false, true, false, false] rfl rfl (by kernel_rfl) (by decide) (fun K hK => ?_)
        refine goes_ Try.func26 (by kernel_rfl) rfl #[.agg #[.int .i64 d.f0, .slice A5 d.f1.length c5, .slice B5 d.f2.length k5], .int .i64 k] (by rfl) rfl rfl (by simp only [List.map_toArray, List.map_cons, List.map_nil]; rfl) ?_
        refine ((HP26.out V1 (HBk.out.trans (HV1.out.mono HBk.out.size)))).mono ?_
        rintro e' V2 ⟨A7, c7, B7, k7, rfl, C7, G7, hb, L7⟩
        refine ⟨_, rfl, ?_⟩
        replace HN9 := Lib.hid (blk_below HN9.out hb.out)
        have HV2 : Hid (Below wr.heap.size wr V2) := HV1.out.trans (hb.out.mono HV1.out.size)
        refine hK.out _ _ ⟨pw_cell_below hb.out hHeld.1, pw_cell_below hb.out hHeld.2.1, pw_cell_below hb.out hHeld.2.2.1, pw_cell_below hb.out hHeld.2.2.2.1, pw_cell_below hb.out hHeld.2.2.2.2⟩ (fun hHeld => ?_)
        clear hK K hb
        refine norm_ (a' := ?_) ?_ ?_
        rotate_left
        · show Act.put _ (some 74) _ = _
          simp only [Act.put, List.setIfInBounds_toArray, List.set_cons_zero, List.set_cons_succ]
          rfl
        refine one_ (i := 4) (N := some 75) #[true, true, true, true, true, false, false, false, true, false, false] rfl rfl (by kernel_rfl) (by decide) (fun K hK => ?_)
        refine goes_ Try.func15 (by kernel_rfl) rfl #[.agg #[.int .i64 x.f0, .slice A3 x.f1.length c3], .agg #[.int .i64 dw.f0, .slice A7 dw.f1.length c7, .slice B7 dw.f2.length k7]] (by rfl) rfl rfl (by simp only [List.map_toArray, List.map_cons, List.map_nil]; rfl) ?_
        refine ((HP15.out V2 _ _ _ _ (HBL.out.trans (HBk.out.trans (HV2.out.mono HBk.out.size) |>.mono HBL.out.size)) C7.out G7.out L7.out.1)).mono ?_
        rintro e' V3 ⟨A8, c8, rfl, R8, hb⟩
        refine ⟨_, rfl, ?_⟩
        replace C7 := Lib.hid (Kd.C_below C7.out hb.out)
        replace G7 := Lib.hid (Kd.C_below G7.out hb.out)
        replace HN9 := Lib.hid (blk_below HN9.out hb.out)
        have HV3 : Hid (Below wr.heap.size wr V3) := HV2.out.trans (hb.out.mono HV2.out.size)
        refine hK.out _ _ ⟨pw_cell_below hb.out hHeld.1, pw_cell_below hb.out hHeld.2.1, pw_cell_below hb.out hHeld.2.2.1, pw_cell_below hb.out hHeld.2.2.2.1, pw_cell_below hb.out hHeld.2.2.2.2⟩ (fun hHeld => ?_)
        clear hK K hb
        refine norm_ (a' := ?_) ?_ ?_
        rotate_left
        · show Act.put _ (some 75) _ = _
          simp only [Act.put, List.setIfInBounds_toArray, List.set_cons_zero, List.set_cons_succ]
          rfl
        refine pure_ (i := 5) (N := some 70) (v := ?_) (a' := ?_) #[true, true, true, true, true, true, false, false, true, false, false] rfl rfl (by kernel_rfl) (fun _ _ _ h => h) (Or.inl ⟨by rfl, ?_⟩) ?_ ?_
        rotate_left
        · intro w'
          go_simp
          with_reducible rfl
        rotate_left
        · simp only [Act.put, List.setIfInBounds_toArray, List.set_cons_zero, List.set_cons_succ]
          rfl
        refine pure_ (i := 6) (N := some 76) (v := ?_) (a' := ?_) #[true, true, true, true, true, true, true, false, true, false, false] rfl rfl (by kernel_rfl) (fun _ _ _ h => h) (Or.inl ⟨by rfl, ?_⟩) ?_ ?_
        rotate_left
        · intro w'
          go_simp
          with_reducible rfl
        rotate_left
        · simp only [Act.put, List.setIfInBounds_toArray, List.set_cons_zero, List.set_cons_succ]
          rfl
        refine pure_ (i := 7) (N := some 77) (v := ?_) (a' := ?_) #[true, true, true, true, true, true, true, true, true, false, false] rfl rfl (by kernel_rfl) (fun _ _ _ h => h) (Or.inl ⟨by rfl, ?_⟩) ?_ ?_
        rotate_left
        · intro w'
          go_simp
          with_reducible rfl
        rotate_left
        · simp only [Act.put, List.setIfInBounds_toArray, List.set_cons_zero, List.set_cons_succ]
          rfl
        refine last_ (i := 9) (N := none) #[true, true, true, true, true, true, true, true, true, true, false] rfl rfl (by kernel_rfl) (by decide) (fun K hK => ?_)
        have x0 : V3.cell? ⟨nb, 0, none⟩ = some (.int .i64 0) := blk_at HN9.out 0 rfl
        have z0 : V3.frozen? ⟨nb, 0, none⟩ = false := blk_frozen HN9.out 0
        have x1 : V3.cell? ⟨nb, 1, none⟩ = some (.slice none 0 0) := blk_at HN9.out 1 rfl
        have z1 : V3.frozen? ⟨nb, 1, none⟩ = false := blk_frozen HN9.out 1
        refine skip_ (w1 := ((V3.setCell ⟨nb, 0, none⟩ (.int .i64 t2.f0)).setCell ⟨nb, 1, none⟩ (.slice A8 t2.f1.length c8))) (by rfl) rfl (by go_simp) ?_
        refine hK.out _ _ ?_
        have R8' := Lib.hid (Kd.R_set (Kd.R_set R8.out HN9.out (by decide) 0 (.int .i64 t2.f0)) (blk_put HN9.out 0 (.int .i64 t2.f0) rfl) (by decide) 1 (.slice A8 t2.f1.length c8))
        have HN9' := Lib.hid (blk_put (blk_put HN9.out 0 (.int .i64 t2.f0) rfl) 1 (.slice A8 t2.f1.length c8) rfl)
        have HB9 : Hid (Below wr.heap.size wr ((V3.setCell ⟨nb, 0, none⟩ (.int .i64 t2.f0)).setCell ⟨nb, 1, none⟩ (.slice A8 t2.f1.length c8))) := Lib.hid ((HV3.out.setCell (p := ⟨nb, 0, none⟩) hnb9.out _).setCell (p := ⟨nb, 1, none⟩) hnb9.out _)
        clear hK K hHeld x0 z0 x1 z1 C7 G7 R8 HN9 HV0 HV1 HV2 HV3
        generalize ((V3.setCell ⟨nb, 0, none⟩ (.int .i64 t2.f0)).setCell ⟨nb, 1, none⟩ (.slice A8 t2.f1.length c8)) = W9 at *
        refine pure_ (i := 10) (N := some 11) (v := ?_) (a' := ?_) #[true, true, true, true, true, true, true, true, true, true, true] rfl rfl (by kernel_rfl) (fun _ _ _ h => h) (Or.inl ⟨by rfl, ?_⟩) ?_ ?_
        rotate_left
        · intro w'
          go_simp
          with_reducible rfl
        rotate_left
        · simp only [Act.put, List.setIfInBounds_toArray, List.set_cons_zero, List.set_cons_succ]
          rfl
        refine done_ (by kernel_rfl) ?_
        replace H0 := Lib.hid (blk_below H0.out (HBk.out.trans (HB9.out.mono HBk.out.size)))
        replace H1 := Lib.hid (blk_below H1.out (HBk.out.trans (HB9.out.mono HBk.out.size)))
        have HBe : Hid (Below vL.heap.size vL W9) := HBk.out.trans (HB9.out.mono HBk.out.size)
        have r8 := Kd.R_reads' R8'.out
        have C8' := Lib.hid r8.2.2
        clear r8 R8'
        by_cases q4 : m4 = 0
        rotate_left
        · have n4 : (m4 == 0) = false := beq_false_of_ne q4
          clear q4
          go_wp2_with (fail)
          go_roundw
          case rel => exact ⟨k + 1, by omega, by go_num, HBe⟩
          case measure => simp [intOf]; omega
        have HNE : Hid (¬ t2 = y) := Lib.hid (by
          have h0 := M8.out
          rw [q4] at h0
          rw [← X8.out]
          rw [← XW.out] at h0 ⊢
          exact without_not HDF.out (by rw [← Hn1.out, ← Hn2.out]; exact hlt) h0)
        subst q4
        have H18 : Hid (Calls Try.prog 18 #[.agg #[.int .i64 t2.f0, .slice A8 t2.f1.length c8], .agg #[.int .i64 y.f0, .slice A4 y.f1.length c4]] W9 fun e' w' => SaysB false W9 e' w') := Lib.hid (by
          have := sameS18 t2 y A8 A4 c8 c4 W9 W9 C8'.out (Kd.C_below C4.out (HBL.out.trans (HBe.out.mono HBL.out.size))) (Below.refl _ _)
          rw [eqB_false HNE.out] at this
          exact this)
        have n0 : W9.cell? ⟨nb, 0, none⟩ = some (.int .i64 t2.f0) := blk_at HN9'.out 0 rfl
        have n1 : W9.cell? ⟨nb, 1, none⟩ = some (.slice A8 t2.f1.length c8) := blk_at HN9'.out 1 rfl
        have y0 : W9.cell? ⟨(g + 1), 0, none⟩ = some (.int .i64 y.f0) := blk_at H1.out 0 rfl
        have y1 : W9.cell? ⟨(g + 1), 1, none⟩ = some (.slice A4 y.f1.length c4) := blk_at H1.out 1 rfl
        go_wp2_with (go_at_call 18; refine H18.out.mono ?_; rintro e' w5 ⟨rfl, hb5⟩
                     have HB5 : Hid (Below vL.heap.size vL w5) := HBe.out.trans (hb5.out.mono HBe.out.size)
                     clear hb5 n0 n1 y0 y1)
        go_roundw
        case rel => exact ⟨k + 1, by omega, by go_num, HB5⟩
        case measure => simp [intOf]; omega

    · obtain rfl : n1 + n2 = k := by omega
      have hlt2 : ¬ ((n1 + n2 : Nat) : Int) < ((n1 + n2 : Nat) : Int) := by omega
      have HBe : Hid (Below w.heap.size w wr) := HBL.out.trans (HBk.out.mono HBL.out.size)
      have HP9 : Hid (∀ W, Below w.heap.size w W → Calls Try.prog 22 #[.agg #[.int .i64 x.f0, .slice A3 x.f1.length c3], .agg #[.int .i64 x.f0, .slice A3 x.f1.length c3]] W fun e' w' => DD (diffD x x) (diffE x x) W e' w') := Lib.hid (fun W h => (diffR22 x x A3 A3 c3 c3 W (Kd.C_below C3.out h) (Kd.C_below C3.out h)).mono (fun _ _ h => h.dd))
      go_upto_region 18 with (fail)
      have a0 : wr.cell? ⟨g, 0, none⟩ = some (.int .i64 x.f0) := blk_at HK0.out 0 rfl
      have a1 : wr.cell? ⟨g, 1, none⟩ = some (.slice A3 x.f1.length c3) := blk_at HK0.out 1 rfl
      generalize hz : diffD x x = z at HP9
      have X9 := Lib.hid hz
      clear hz
      generalize hz : diffE x x = m9 at HP9
      have M9 := Lib.hid hz
      clear hz
      go_upto_region 19 with (go_at_call 22; refine (HP9.out _ HBe.out).mono ?_; rintro e' u9 ⟨A9, c9, B9, k9, rfl, C9, G9, hb9, L9⟩
                              clear a0 a1)
      have HBu : Hid (Below wr.heap.size wr (u9.alloc (.cells #[.int .i64 z.f0, .slice A9 z.f1.length c9, .slice B9 z.f2.length k9] 27))) := Lib.hid (hb9.out.alloc hb9.out.size _)
      replace C9 := Lib.hid (Kd.C_alloc C9.out (.cells #[.int .i64 z.f0, .slice A9 z.f1.length c9, .slice B9 z.f2.length k9] 27))
      replace G9 := Lib.hid (Kd.C_alloc G9.out (.cells #[.int .i64 z.f0, .slice A9 z.f1.length c9, .slice B9 z.f2.length k9] 27))
      have K9 := Lib.hid (blk_new u9 (.cells #[.int .i64 z.f0, .slice A9 z.f1.length c9, .slice B9 z.f2.length k9] 27))
      replace HK0 := Lib.hid (blk_below HK0.out HBu.out)
      obtain ⟨b9, hbb⟩ : ∃ b, b = u9.heap.size := ⟨_, rfl⟩
      rw [← hbb] at K9 ⊢
      generalize u9.alloc (.cells #[.int .i64 z.f0, .slice A9 z.f1.length c9, .slice B9 z.f2.length k9] 27) = v9 at *
      have HB9 : Hid (Below w.heap.size w v9) := HBe.out.trans (HBu.out.mono HBe.out.size)
      have HS9 := HBu
      clear hbb hb9 HBu
      have q1 : m9 = 0 := by rw [← M9.out]; exact (diffed FX.out FX.out).1
      subst q1
      have H19 : Hid (Calls Try.prog 19 #[.agg #[.int .i64 z.f0, .slice A9 z.f1.length c9, .slice B9 z.f2.length k9], .agg #[.int .i64 x.f0, .slice none 0 0, .slice none 0 0]] v9 fun e' w' => SaysB true v9 e' w') := Lib.hid (by
        have := sameD19 z ⟨x.f0, [], []⟩ A9 none B9 none c9 0 k9 0 v9 v9 C9.out (Kd.C_nil _ _) G9.out (Kd.C_nil _ _) (Below.refl _ _)
        rw [eqB_true (by rw [← X9.out]; exact diff_self FX.out)] at this
        exact this)
      have p0 : v9.cell? ⟨b9, 0, none⟩ = some (.int .i64 z.f0) := blk_at K9.out 0 rfl
      have p1 : v9.cell? ⟨b9, 1, none⟩ = some (.slice A9 z.f1.length c9) := blk_at K9.out 1 rfl
      have p2 : v9.cell? ⟨b9, 2, none⟩ = some (.slice B9 z.f2.length k9) := blk_at K9.out 2 rfl
      have q0 : v9.cell? ⟨g, 0, none⟩ = some (.int .i64 x.f0) := blk_at HK0.out 0 rfl
      have q1 : v9.cell? ⟨g, 1, none⟩ = some (.slice A3 x.f1.length c3) := blk_at HK0.out 1 rfl
      go_wp2_with (go_at_call 19; refine H19.out.mono ?_; rintro e' w5 ⟨rfl, hb5⟩
                   have HB5 : Hid (Below w.heap.size w w5) := HB9.out.trans (hb5.out.mono HB9.out.size)
                   clear hb5)
      go_ret
      exact ⟨rfl, HB5.out⟩
end Go.Proofs.Ytpplnhefpcofoaa.PDeltaJoin
