/- copied: a part in new memory. -/
import Derived.Test.YtcbaiplamaopeaaPF
namespace Go.Proofs.Ytcbaiplamaopeaa.PPostShots
open Go.RowKit Go.Conc Go.Proofs.YtcbaiplamaopeaaW.PrintWords Go.Proofs.YtcbaiplamaopeaaW.PrintLast Go.Proofs.Ytcbaiplamaopeaa.PPost
set_option linter.unusedVariables false
set_option linter.unusedSimpArgs false

theorem e83 : ∀ q, q ∈ 83 :: k83.E → q ≠ 40 := by decide
theorem e103 : ∀ q, q ∈ 103 :: k103.E → q ≠ 40 := by decide
theorem e38 : ∀ q, q ∈ 38 :: (Kd.slice 83 k83).E → q ≠ 40 := by decide
theorem e83_103 : ∀ q, q ∈ 83 :: k83.E → q ≠ 103 := by decide
theorem e83_38 : ∀ q, q ∈ 83 :: k83.E → q ≠ 38 := by decide
theorem e103_38 : ∀ q, q ∈ 103 :: k103.E → q ≠ 38 := by decide
set_option maxRecDepth 100000 in
set_option maxHeartbeats 16000000 in
theorem copied26 (x : S40) (A1 : Option Addr) (c1 : Nat) (A2 : Option Addr) (c2 : Nat) (A3 : Option Addr) (c3 : Nat) (w : World) (hC1 : Kd.C k103 w A1 x.f0.f1.length x.f0.f1) (hC2 : Kd.C (Kd.slice 83 k83) w A2 x.f1.length x.f1) (hC3 : Kd.C k83 w A3 x.f2.length x.f2) (hp : partsP x ≤ 100000) :
    Calls Try.prog 26 #[.agg #[.int .i64 x.f0.f0, .slice A1 x.f0.f1.length c1, .slice A2 x.f1.length c2, .slice A3 x.f2.length c3]] w fun e w' => ∃ v1 v2 v3, e = .returned (.agg #[.int .i64 x.f0.f0, v1, v2, v3]) ∧ Hid (Kd.R k103 103 w' w.heap.size (fun _ => True) v1 x.f0.f1) ∧ Hid (Kd.R (Kd.slice 83 k83) 38 w' w.heap.size (fun _ => True) v2 x.f1) ∧ Hid (Kd.R k83 83 w' w.heap.size (fun _ => True) v3 x.f2) ∧ Hid (Below w.heap.size w w') := by
  obtain ⟨m, hm⟩ : ∃ m, m = x.f0.f1.length := ⟨_, rfl⟩
  obtain ⟨n, hn⟩ : ∃ n, n = x.f1.length := ⟨_, rfl⟩
  obtain ⟨p, hpl⟩ : ∃ p, p = x.f2.length := ⟨_, rfl⟩
  have hm6 : m ≤ 100000 := by have := partsC_len x.f0.f1; unfold partsP at hp; omega
  have hn6 : n ≤ 100000 := by unfold partsP partsLs at hp; omega
  have HC1 := Lib.hid hC1
  have HC2 := Lib.hid hC2
  have Hpp := Lib.hid hp
  have Hm := Lib.hid hm
  have Hn := Lib.hid hn
  have Hp := Lib.hid hpl
  have HPEND : Hid (∀ W : World, Below w.heap.size w W → Calls Try.prog 45 #[.slice A3 p c3] W fun e w' => ∃ v, e = .returned v ∧ Hid (Kd.R k83 83 w' W.heap.size (fun _ => True) v x.f2) ∧ Hid (Below W.heap.size W w')) := Lib.hid (fun W hW => by
    rw [hpl]
    exact records45 x.f2 A3 c3 W (Kd.C_below hC3 hW) (by unfold partsP at hp; omega))
  rw [← hm, ← hn, ← hpl]
  clear hC1 hC2 hC3 hp hm hn hpl
  have HD : Hid (((w.alloc (.cells #[.int .i64 x.f0.f0, .slice A1 m c1, .slice A2 n c2, .slice A3 p c3] 40)).alloc (.cells #[.int .i64 0, .slice none 0 0, .slice none 0 0, .slice none 0 0] 40)).heap[w.heap.size]? = some (.cells #[.int .i64 x.f0.f0, .slice A1 m c1, .slice A2 n c2, .slice A3 p c3] 40 (0, 0))) := Lib.hid (blk_alloc (blk_new w _) _)
  have HE : Hid (((w.alloc (.cells #[.int .i64 x.f0.f0, .slice A1 m c1, .slice A2 n c2, .slice A3 p c3] 40)).alloc (.cells #[.int .i64 0, .slice none 0 0, .slice none 0 0, .slice none 0 0] 40)).heap[w.heap.size + 1]? = some (.cells #[.int .i64 0, .slice none 0 0, .slice none 0 0, .slice none 0 0] 40 (0, 0))) := Lib.hid (by
    have := blk_new (w.alloc (.cells #[.int .i64 x.f0.f0, .slice A1 m c1, .slice A2 n c2, .slice A3 p c3] 40)) (.cells #[.int .i64 0, .slice none 0 0, .slice none 0 0, .slice none 0 0] 40)
    simp only [World.size_alloc] at this
    exact this)
  have HB : Hid (Below w.heap.size w ((w.alloc (.cells #[.int .i64 x.f0.f0, .slice A1 m c1, .slice A2 n c2, .slice A3 p c3] 40)).alloc (.cells #[.int .i64 0, .slice none 0 0, .slice none 0 0, .slice none 0 0] 40))) := Lib.hid (((Below.refl _ _).alloc (Nat.le_refl _) _).alloc (by simp) _)
  have Hsz : Hid (w.heap.size + 2 ≤ ((w.alloc (.cells #[.int .i64 x.f0.f0, .slice A1 m c1, .slice A2 n c2, .slice A3 p c3] 40)).alloc (.cells #[.int .i64 0, .slice none 0 0, .slice none 0 0, .slice none 0 0] 40)).heap.size) := Lib.hid (by simp)
  go_enter Try.func26, Try.ntmps26
  go_upto_region 1 with (fail)
  go_cut [3] (fun v3 wx => ∃ go Av cv, v3 = .pointer (some ⟨go, 0, none⟩) ∧ Hid (wx.heap[go]? = some (.cells #[.int .i64 x.f0.f0, .slice none 0 0, .slice none 0 0, .slice Av p cv] 40 (0, 0))) ∧ Hid (wx.heap[w.heap.size]? = some (.cells #[.int .i64 x.f0.f0, .slice A1 m c1, .slice A2 n c2, .slice A3 p c3] 40 (0, 0))) ∧ Hid (wx.heap[w.heap.size + 1]? = some (.cells #[.int .i64 0, .slice none 0 0, .slice none 0 0, .slice none 0 0] 40 (0, 0))) ∧ Hid (Kd.R k83 83 wx (w.heap.size + 2) (fun _ => True) (.slice Av p cv) x.f2) ∧ Hid (Below w.heap.size w wx) ∧ Hid (w.heap.size + 2 ≤ go))
  case first =>
    refine start_ (n := 10) (S := (fun w' => w'.cell? ⟨w.heap.size, 0, none⟩ = some (.int .i64 x.f0.f0) ∧ w'.cell? ⟨w.heap.size, 3, none⟩ = some (.slice A3 p c3))) (ds := [9]) #[false, false, false, false, false, false, false, false, false, false] (by kernel_rfl) rfl rfl ⟨blk_at HD.out 0 rfl, blk_at HD.out 3 rfl⟩ (fun hHeld => ?_)
    have HD0 : Hid (((w.alloc (.cells #[.int .i64 x.f0.f0, .slice A1 m c1, .slice A2 n c2, .slice A3 p c3] 40)).alloc (.cells #[.int .i64 0, .slice none 0 0, .slice none 0 0, .slice none 0 0] 40)).drew.heap[w.heap.size]? = some (.cells #[.int .i64 x.f0.f0, .slice A1 m c1, .slice A2 n c2, .slice A3 p c3] 40 (0, 0))) := HD
    have HE0 : Hid (((w.alloc (.cells #[.int .i64 x.f0.f0, .slice A1 m c1, .slice A2 n c2, .slice A3 p c3] 40)).alloc (.cells #[.int .i64 0, .slice none 0 0, .slice none 0 0, .slice none 0 0] 40)).drew.heap[w.heap.size + 1]? = some (.cells #[.int .i64 0, .slice none 0 0, .slice none 0 0, .slice none 0 0] 40 (0, 0))) := HE
    have HB0 : Hid (Below w.heap.size w ((w.alloc (.cells #[.int .i64 x.f0.f0, .slice A1 m c1, .slice A2 n c2, .slice A3 p c3] 40)).alloc (.cells #[.int .i64 0, .slice none 0 0, .slice none 0 0, .slice none 0 0] 40)).drew) := Lib.hid HB.out.drew
    have Hz0 : Hid (w.heap.size + 2 ≤ ((w.alloc (.cells #[.int .i64 x.f0.f0, .slice A1 m c1, .slice A2 n c2, .slice A3 p c3] 40)).alloc (.cells #[.int .i64 0, .slice none 0 0, .slice none 0 0, .slice none 0 0] 40)).drew.heap.size) := Hsz
    clear HD HE HB Hsz
    generalize ((w.alloc (.cells #[.int .i64 x.f0.f0, .slice A1 m c1, .slice A2 n c2, .slice A3 p c3] 40)).alloc (.cells #[.int .i64 0, .slice none 0 0, .slice none 0 0, .slice none 0 0] 40)).drew = W0 at *
    refine pure_ (i := 0) (N := some 8) (v := ?_) (a' := ?_) #[true, false, false, false, false, false, false, false, false, false] rfl rfl (by kernel_rfl) (fun _ _ _ h => h) (Or.inl ⟨by rfl, ?_⟩) ?_ ?_
    rotate_left
    · intro w'
      go_simp
      with_reducible rfl
    rotate_left
    · simp only [Act.put, List.setIfInBounds_toArray, List.set_cons_zero, List.set_cons_succ]
      rfl
    refine pure_ (i := 1) (N := some 9) (v := ?_) (a' := ?_) #[true, true, false, false, false, false, false, false, false, false] rfl rfl (by kernel_rfl) (fun _ _ _ h => h) (Or.inl ⟨by rfl, ?_⟩) ?_ ?_
    rotate_left
    · intro w'
      go_simp
      with_reducible rfl
    rotate_left
    · simp only [Act.put, List.setIfInBounds_toArray, List.set_cons_zero, List.set_cons_succ]
      rfl
    refine take_ (i := 2) (N := some 10) (v := ?_) (a' := ?_) #[true, true, true, false, false, false, false, false, false, false] rfl rfl (by kernel_rfl) (fun _ _ _ h => h) (Or.inl ⟨by rfl, ?_⟩) hHeld ?_ ?_
    rotate_left
    · rintro w' ⟨s0, s1⟩
      go_simp
      with_reducible rfl
    rotate_left
    · simp only [Act.put, List.setIfInBounds_toArray, List.set_cons_zero, List.set_cons_succ]
      rfl
    refine pure_ (i := 3) (N := some 11) (v := ?_) (a' := ?_) #[true, true, true, true, false, false, false, false, false, false] rfl rfl (by kernel_rfl) (fun _ _ _ h => h) (Or.inl ⟨by rfl, ?_⟩) ?_ ?_
    rotate_left
    · intro w'
      go_simp
      with_reducible rfl
    rotate_left
    · simp only [Act.put, List.setIfInBounds_toArray, List.set_cons_zero, List.set_cons_succ]
      rfl
    refine pure_ (i := 4) (N := some 12) (v := ?_) (a' := ?_) #[true, true, true, true, true, false, false, false, false, false] rfl rfl (by kernel_rfl) (fun _ _ _ h => h) (Or.inl ⟨by rfl, ?_⟩) ?_ ?_
    rotate_left
    · intro w'
      go_simp
      with_reducible rfl
    rotate_left
    · simp only [Act.put, List.setIfInBounds_toArray, List.set_cons_zero, List.set_cons_succ]
      rfl
    refine take_ (i := 5) (N := some 13) (v := ?_) (a' := ?_) #[true, true, true, true, true, true, false, false, false, false] rfl rfl (by kernel_rfl) (fun _ _ _ h => h) (Or.inl ⟨by rfl, ?_⟩) hHeld ?_ ?_
    rotate_left
    · rintro w' ⟨s0, s1⟩
      go_simp
      with_reducible rfl
    rotate_left
    · simp only [Act.put, List.setIfInBounds_toArray, List.set_cons_zero, List.set_cons_succ]
      rfl
    refine two_ (i := 6) (j := 8) (Ni := some 14) (Nj := some 3) #[true, true, true, true, true, true, true, false, false, false] #[true, true, true, true, true, true, false, false, true, false] rfl rfl rfl rfl (by kernel_rfl) (by decide) (by decide) (fun K hK => ?_) (fun K hK => ?_)
    · refine goes_ Try.func45 (by kernel_rfl) rfl #[.slice A3 p c3] (by rfl) rfl rfl (by simp only [List.map_toArray, List.map_cons, List.map_nil]; rfl) ?_
      refine (HPEND.out W0 HB0.out).mono ?_
      rintro e W1 ⟨v, rfl, hv, hb⟩
      obtain ⟨Av, cv, rfl⟩ := Kd.R_slice hv.out
      rw [← Hp.out] at hv ⊢
      refine ⟨_, rfl, ?_⟩
      have HD1 := Lib.hid (blk_below HD0.out hb.out)
      have HE1 := Lib.hid (blk_below HE0.out hb.out)
      have HB1 := Lib.hid (HB0.out.trans (hb.out.mono HB0.out.size))
      have HV1 := Lib.hid (Kd.R_lower hv.out Hz0.out)
      have Hz1 : Hid (w.heap.size + 2 ≤ W1.heap.size) := Lib.hid (Nat.le_trans Hz0.out hb.out.size)
      refine hK.out _ _ ⟨blk_at HD1.out 0 rfl, blk_at HD1.out 3 rfl⟩ (fun hHeld => ?_)
      clear hK K hb hv HD0 HE0 HB0 Hz0
      refine norm_ (a' := ?_) ?_ ?_
      rotate_left
      · show Act.put _ (some 14) _ = _
        simp only [Act.put, List.setIfInBounds_toArray, List.set_cons_zero, List.set_cons_succ]
        rfl
      refine pure_ (i := 7) (N := some 15) (v := ?_) (a' := ?_) #[true, true, true, true, true, true, true, true, false, false] rfl rfl (by kernel_rfl) (fun _ _ _ h => h) (Or.inl ⟨by rfl, ?_⟩) ?_ ?_
      rotate_left
      · intro w'
        go_simp
        with_reducible rfl
      rotate_left
      · simp only [Act.put, List.setIfInBounds_toArray, List.set_cons_zero, List.set_cons_succ]
        rfl
      refine one_ (i := 8) (N := some 3) #[true, true, true, true, true, true, true, true, true, false] rfl rfl (by kernel_rfl) (by decide) (fun K hK => ?_)
      refine value_ (w1 := (W1.alloc (.cells #[.int .i64 0, .slice none 0 0, .slice none 0 0, .slice none 0 0] 40))) (v := .pointer (some ⟨W1.heap.size, 0, none⟩)) (by rfl) rfl (by go_simp) ?_
      have HG2 : Hid ((W1.alloc (.cells #[.int .i64 0, .slice none 0 0, .slice none 0 0, .slice none 0 0] 40)).heap[W1.heap.size]? = some (.cells #[.int .i64 0, .slice none 0 0, .slice none 0 0, .slice none 0 0] 40 (0, 0))) := Lib.hid (blk_new _ _)
      have HD2 := Lib.hid (blk_alloc HD1.out (.cells #[.int .i64 0, .slice none 0 0, .slice none 0 0, .slice none 0 0] 40))
      have HE2 := Lib.hid (blk_alloc HE1.out (.cells #[.int .i64 0, .slice none 0 0, .slice none 0 0, .slice none 0 0] 40))
      have HB2 := Lib.hid (HB1.out.alloc HB1.out.size (.cells #[.int .i64 0, .slice none 0 0, .slice none 0 0, .slice none 0 0] 40))
      have Hgo : Hid (w.heap.size + 2 ≤ W1.heap.size) := Lib.hid Hz1.out
      have Hz2 : Hid (w.heap.size + 2 ≤ (W1.alloc (.cells #[.int .i64 0, .slice none 0 0, .slice none 0 0, .slice none 0 0] 40)).heap.size) := Lib.hid (by simp only [World.size_alloc]; have := Hz1.out; omega)
      have HV2 := Lib.hid (Kd.R_alloc HV1.out (.cells #[.int .i64 0, .slice none 0 0, .slice none 0 0, .slice none 0 0] 40))
      refine hK.out _ _ ⟨blk_at HD2.out 0 rfl, blk_at HD2.out 3 rfl⟩ (fun hHeld => ?_)
      clear hK K HD1 HE1 HB1 Hz1 HV1
      generalize (W1.alloc (.cells #[.int .i64 0, .slice none 0 0, .slice none 0 0, .slice none 0 0] 40)) = W2 at *
      generalize W1.heap.size = go at *
      refine norm_ (a' := ?_) ?_ ?_
      rotate_left
      · show Act.put _ (some 3) _ = _
        simp only [Act.put, List.setIfInBounds_toArray, List.set_cons_zero, List.set_cons_succ]
        rfl
      refine last_ (i := 9) (N := none) #[true, true, true, true, true, true, true, true, true, true] rfl rfl (by kernel_rfl) (by decide) (fun K hK => ?_)
      have y0 : W2.cell? ⟨go, 0, none⟩ = some (.int .i64 0) := blk_at HG2.out 0 rfl
      have y1 : W2.cell? ⟨go, 1, none⟩ = some (.slice none 0 0) := blk_at HG2.out 1 rfl
      have y2 : W2.cell? ⟨go, 2, none⟩ = some (.slice none 0 0) := blk_at HG2.out 2 rfl
      have y3 : W2.cell? ⟨go, 3, none⟩ = some (.slice none 0 0) := blk_at HG2.out 3 rfl
      have z0 : W2.frozen? ⟨go, 0, none⟩ = false := blk_frozen HG2.out 0
      have z1 : W2.frozen? ⟨go, 1, none⟩ = false := blk_frozen HG2.out 1
      have z2 : W2.frozen? ⟨go, 2, none⟩ = false := blk_frozen HG2.out 2
      have z3 : W2.frozen? ⟨go, 3, none⟩ = false := blk_frozen HG2.out 3
      refine skip_ (w1 := ((((W2.setCell ⟨go, 0, none⟩ (.int .i64 x.f0.f0)).setCell ⟨go, 1, none⟩ (.slice none 0 0)).setCell ⟨go, 2, none⟩ (.slice none 0 0)).setCell ⟨go, 3, none⟩ (.slice Av p cv))) (by rfl) rfl (by go_simp) ?_
      refine hK.out _ _ ?_
      clear hK K y0 y1 y2 y3 z0 z1 z2 z3
      refine done_ (by kernel_rfl) ?_
      have n0 : w.heap.size ≠ go := by have := Hgo.out; omega
      have n1 : w.heap.size + 1 ≠ go := by have := Hgo.out; omega
      have gg : ∀ (W : World) (i : Nat) (u : Value), Below w.heap.size w W → Below w.heap.size w (W.setCell ⟨go, i, none⟩ u) := fun W i u hW => hW.setCell (by have := Hgo.out; simp only []; omega) _
      have hv1 := Kd.R_set HV2.out HG2.out e83 0 (.int .i64 x.f0.f0)
      have hg1 := blk_put HG2.out 0 (.int .i64 x.f0.f0) rfl
      have hv2 := Kd.R_set hv1 hg1 e83 1 (.slice none 0 0)
      have hg2 := blk_put hg1 1 (.slice none 0 0) rfl
      have hv3 := Kd.R_set hv2 hg2 e83 2 (.slice none 0 0)
      have hg3 := blk_put hg2 2 (.slice none 0 0) rfl
      have hv4 := Kd.R_set hv3 hg3 e83 3 (.slice Av p cv)
      have hg4 := blk_put hg3 3 (.slice Av p cv) rfl
      go_wp2_with (fail)
      go_meet
      exact ⟨go, Av, cv, rfl, Lib.hid hg4, Lib.hid (blk_far (blk_far (blk_far (blk_far (HD2.out) n0 _) n0 _) n0 _) n0 _), Lib.hid (blk_far (blk_far (blk_far (blk_far (HE2.out) n1 _) n1 _) n1 _) n1 _), Lib.hid hv4, Lib.hid (gg _ 3 _ (gg _ 2 _ (gg _ 1 _ (gg _ 0 _ (HB2.out))))), Hgo⟩
    · refine value_ (w1 := (W0.alloc (.cells #[.int .i64 0, .slice none 0 0, .slice none 0 0, .slice none 0 0] 40))) (v := .pointer (some ⟨W0.heap.size, 0, none⟩)) (by rfl) rfl (by go_simp) ?_
      have HG1 : Hid ((W0.alloc (.cells #[.int .i64 0, .slice none 0 0, .slice none 0 0, .slice none 0 0] 40)).heap[W0.heap.size]? = some (.cells #[.int .i64 0, .slice none 0 0, .slice none 0 0, .slice none 0 0] 40 (0, 0))) := Lib.hid (blk_new _ _)
      have HD1 := Lib.hid (blk_alloc HD0.out (.cells #[.int .i64 0, .slice none 0 0, .slice none 0 0, .slice none 0 0] 40))
      have HE1 := Lib.hid (blk_alloc HE0.out (.cells #[.int .i64 0, .slice none 0 0, .slice none 0 0, .slice none 0 0] 40))
      have HB1 := Lib.hid (HB0.out.alloc HB0.out.size (.cells #[.int .i64 0, .slice none 0 0, .slice none 0 0, .slice none 0 0] 40))
      have Hgo : Hid (w.heap.size + 2 ≤ W0.heap.size) := Lib.hid Hz0.out
      have Hz1 : Hid (w.heap.size + 2 ≤ (W0.alloc (.cells #[.int .i64 0, .slice none 0 0, .slice none 0 0, .slice none 0 0] 40)).heap.size) := Lib.hid (by simp only [World.size_alloc]; have := Hz0.out; omega)
      refine hK.out _ _ ⟨blk_at HD1.out 0 rfl, blk_at HD1.out 3 rfl⟩ (fun hHeld => ?_)
      clear hK K HD0 HE0 HB0 Hz0
      generalize (W0.alloc (.cells #[.int .i64 0, .slice none 0 0, .slice none 0 0, .slice none 0 0] 40)) = W1 at *
      generalize W0.heap.size = go at *
      refine norm_ (a' := ?_) ?_ ?_
      rotate_left
      · show Act.put _ (some 3) _ = _
        simp only [Act.put, List.setIfInBounds_toArray, List.set_cons_zero, List.set_cons_succ]
        rfl
      refine one_ (i := 6) (N := some 14) #[true, true, true, true, true, true, true, false, true, false] rfl rfl (by kernel_rfl) (by decide) (fun K hK => ?_)
      refine goes_ Try.func45 (by kernel_rfl) rfl #[.slice A3 p c3] (by rfl) rfl rfl (by simp only [List.map_toArray, List.map_cons, List.map_nil]; rfl) ?_
      refine (HPEND.out W1 HB1.out).mono ?_
      rintro e W2 ⟨v, rfl, hv, hb⟩
      obtain ⟨Av, cv, rfl⟩ := Kd.R_slice hv.out
      rw [← Hp.out] at hv ⊢
      refine ⟨_, rfl, ?_⟩
      have HD2 := Lib.hid (blk_below HD1.out hb.out)
      have HE2 := Lib.hid (blk_below HE1.out hb.out)
      have HB2 := Lib.hid (HB1.out.trans (hb.out.mono HB1.out.size))
      have HV2 := Lib.hid (Kd.R_lower hv.out Hz1.out)
      have Hz2 : Hid (w.heap.size + 2 ≤ W2.heap.size) := Lib.hid (Nat.le_trans Hz1.out hb.out.size)
      have HG2 := Lib.hid (blk_below HG1.out hb.out)
      refine hK.out _ _ ⟨blk_at HD2.out 0 rfl, blk_at HD2.out 3 rfl⟩ (fun hHeld => ?_)
      clear hK K hb hv HD1 HE1 HB1 Hz1 HG1
      refine norm_ (a' := ?_) ?_ ?_
      rotate_left
      · show Act.put _ (some 14) _ = _
        simp only [Act.put, List.setIfInBounds_toArray, List.set_cons_zero, List.set_cons_succ]
        rfl
      refine pure_ (i := 7) (N := some 15) (v := ?_) (a' := ?_) #[true, true, true, true, true, true, true, true, true, false] rfl rfl (by kernel_rfl) (fun _ _ _ h => h) (Or.inl ⟨by rfl, ?_⟩) ?_ ?_
      rotate_left
      · intro w'
        go_simp
        with_reducible rfl
      rotate_left
      · simp only [Act.put, List.setIfInBounds_toArray, List.set_cons_zero, List.set_cons_succ]
        rfl
      refine last_ (i := 9) (N := none) #[true, true, true, true, true, true, true, true, true, true] rfl rfl (by kernel_rfl) (by decide) (fun K hK => ?_)
      have y0 : W2.cell? ⟨go, 0, none⟩ = some (.int .i64 0) := blk_at HG2.out 0 rfl
      have y1 : W2.cell? ⟨go, 1, none⟩ = some (.slice none 0 0) := blk_at HG2.out 1 rfl
      have y2 : W2.cell? ⟨go, 2, none⟩ = some (.slice none 0 0) := blk_at HG2.out 2 rfl
      have y3 : W2.cell? ⟨go, 3, none⟩ = some (.slice none 0 0) := blk_at HG2.out 3 rfl
      have z0 : W2.frozen? ⟨go, 0, none⟩ = false := blk_frozen HG2.out 0
      have z1 : W2.frozen? ⟨go, 1, none⟩ = false := blk_frozen HG2.out 1
      have z2 : W2.frozen? ⟨go, 2, none⟩ = false := blk_frozen HG2.out 2
      have z3 : W2.frozen? ⟨go, 3, none⟩ = false := blk_frozen HG2.out 3
      refine skip_ (w1 := ((((W2.setCell ⟨go, 0, none⟩ (.int .i64 x.f0.f0)).setCell ⟨go, 1, none⟩ (.slice none 0 0)).setCell ⟨go, 2, none⟩ (.slice none 0 0)).setCell ⟨go, 3, none⟩ (.slice Av p cv))) (by rfl) rfl (by go_simp) ?_
      refine hK.out _ _ ?_
      clear hK K y0 y1 y2 y3 z0 z1 z2 z3
      refine done_ (by kernel_rfl) ?_
      have n0 : w.heap.size ≠ go := by have := Hgo.out; omega
      have n1 : w.heap.size + 1 ≠ go := by have := Hgo.out; omega
      have gg : ∀ (W : World) (i : Nat) (u : Value), Below w.heap.size w W → Below w.heap.size w (W.setCell ⟨go, i, none⟩ u) := fun W i u hW => hW.setCell (by have := Hgo.out; simp only []; omega) _
      have hv1 := Kd.R_set HV2.out HG2.out e83 0 (.int .i64 x.f0.f0)
      have hg1 := blk_put HG2.out 0 (.int .i64 x.f0.f0) rfl
      have hv2 := Kd.R_set hv1 hg1 e83 1 (.slice none 0 0)
      have hg2 := blk_put hg1 1 (.slice none 0 0) rfl
      have hv3 := Kd.R_set hv2 hg2 e83 2 (.slice none 0 0)
      have hg3 := blk_put hg2 2 (.slice none 0 0) rfl
      have hv4 := Kd.R_set hv3 hg3 e83 3 (.slice Av p cv)
      have hg4 := blk_put hg3 3 (.slice Av p cv) rfl
      go_wp2_with (fail)
      go_meet
      exact ⟨go, Av, cv, rfl, Lib.hid hg4, Lib.hid (blk_far (blk_far (blk_far (blk_far (HD2.out) n0 _) n0 _) n0 _) n0 _), Lib.hid (blk_far (blk_far (blk_far (blk_far (HE2.out) n1 _) n1 _) n1 _) n1 _), Lib.hid hv4, Lib.hid (gg _ 3 _ (gg _ 2 _ (gg _ 1 _ (gg _ 0 _ (HB2.out))))), Hgo⟩
  case rest =>
  obtain ⟨go, Av, cv, rfl, HG0, HD0, HE0, HQ0, HB0, Hgo⟩ := hcut
  clear HD HE HB Hsz HPEND
  replace HQ0 := Lib.hid (Kd.R_lower HQ0.out (Nat.le_add_right w.heap.size 2))
  have q1 : wc.cell? ⟨w.heap.size, 1, none⟩ = some (.slice A1 m c1) := blk_at HD0.out 1 rfl
  go_upto_block 0 with (fail)
  clear q1
  go_cut [] (fun wx => ∃ Ac cc, Hid (wx.heap[go]? = some (.cells #[.int .i64 x.f0.f0, .slice Ac m cc, .slice none 0 0, .slice Av p cv] 40 (0, 0))) ∧ Hid (Kd.R k103 103 wx w.heap.size (fun _ => True) (.slice Ac m cc) x.f0.f1) ∧ Hid (wx.heap[w.heap.size]? = some (.cells #[.int .i64 x.f0.f0, .slice A1 m c1, .slice A2 n c2, .slice A3 p c3] 40 (0, 0))) ∧ Hid (wx.heap[w.heap.size + 1]? = some (.cells #[.int .i64 0, .slice none 0 0, .slice none 0 0, .slice none 0 0] 40 (0, 0))) ∧ Hid (Below w.heap.size w wx) ∧ Hid (Kd.R k83 83 wx w.heap.size (fun _ => True) (.slice Av p cv) x.f2))
  case first =>
    go_wp2_with (fail)
    go_loopw [20] (fun v20 wr => ∃ k Ai ci, k ≤ m ∧ v20 = .int .i64 (k : Nat) ∧ Hid (wr.heap[go]? = some (.cells #[.int .i64 x.f0.f0, .slice Ai k ci, .slice none 0 0, .slice Av p cv] 40 (0, 0))) ∧ Hid (Kd.R k103 103 wr w.heap.size (fun _ => True) (.slice Ai k ci) (x.f0.f1.take k)) ∧ Hid (wr.heap[w.heap.size]? = some (.cells #[.int .i64 x.f0.f0, .slice A1 m c1, .slice A2 n c2, .slice A3 p c3] 40 (0, 0))) ∧ Hid (wr.heap[w.heap.size + 1]? = some (.cells #[.int .i64 0, .slice none 0 0, .slice none 0 0, .slice none 0 0] 40 (0, 0))) ∧ Hid (Below w.heap.size w wr) ∧ Hid (Kd.R k83 83 wr w.heap.size (fun _ => True) (.slice Av p cv) x.f2)) (fun v20 _ => m - (intOf v20).toNat)
    case atStart => exact ⟨0, none, 0, Nat.zero_le _, rfl, HG0, Lib.hid (Kd.R_nil _ _ _ _ _), HD0, HE0, HB0, HQ0⟩
    case round =>
      clear HG0 HD0 HE0 HB0 HQ0
      obtain ⟨k, Ai, ci, hk, rfl, HGa, HOa, HDa, HEa, HBa, HQa⟩ := hrel
      by_cases hlt : k < m
      · obtain ⟨ad, Aq, cq, rfl, e0, e1, hlq, hCq⟩ := at_T103 HC1.out (k : Int) (by omega) (by rw [← Hm.out]; omega)
        have hmem : rd_T103 x.f0.f1 (k : Int) ∈ x.f0.f1 := getD_mem _ _ _ (by rw [Int.toNat_natCast, ← Hm.out]; exact hlt)
        have htk : x.f0.f1.take (k + 1) = x.f0.f1.take k ++ [rd_T103 x.f0.f1 (k : Int)] := take_getD _ _ _ (by rw [← Hm.out]; exact hlt)
        generalize rd_T103 x.f0.f1 (k : Int) = y at *
        have Htk := Lib.hid htk
        have Hmem := Lib.hid hmem
        have HCq := Lib.hid hCq
        have Hlq := Lib.hid hlq
        have HBk := HBa
        have Hlk : Hid ((x.f0.f1.take (k + 1)).length = k + 1) := Lib.hid (by rw [List.length_take, ← Hm.out]; omega)
        have Hlm : Hid (x.f0.f1.length ≤ 100000) := Lib.hid (by have := Hm.out; omega)
        have HLU := Lib.hid (Kd.R_lt HOa.out)
        have n0 : w.heap.size ≠ go := by have := Hgo.out; omega
        have n1 : w.heap.size + 1 ≠ go := by have := Hgo.out; omega
        rw [Int.toNat_natCast] at e0 e1
        replace e0 := pw_cell_below HBa.out e0
        replace e1 := pw_cell_below HBa.out e1
        have HZ : Hid (∀ W : World, Below wr.heap.size wr W → Calls Try.prog 46 #[.slice Aq y.f1.length cq] W fun e w' => ∃ v, e = .returned v ∧ Hid (Kd.R k81 81 w' W.heap.size (fun _ => True) v y.f1) ∧ Hid (Below W.heap.size W w')) := Lib.hid (fun W hW => values46 y.f1 Aq cq W (Kd.C_below HCq.out (HBk.out.trans (hW.mono HBk.out.size))) Hlq.out (by have h1 := partsC_mem Hmem.out; have h2 := Hpp.out; unfold partsP at h2; omega))
        clear htk hmem hCq hlq
        have HXa := Lib.hid (blk_new wr (.cells #[.string y.f0, .slice Aq y.f1.length cq] 103))
        have HBs : Hid (Below wr.heap.size wr (wr.alloc (.cells #[.string y.f0, .slice Aq y.f1.length cq] 103))) := Lib.hid ((Below.refl _ _).alloc (Nat.le_refl _) _)
        replace HGa := Lib.hid (blk_alloc HGa.out (.cells #[.string y.f0, .slice Aq y.f1.length cq] 103))
        replace HOa := Lib.hid (Kd.R_alloc HOa.out (.cells #[.string y.f0, .slice Aq y.f1.length cq] 103))
        replace HDa := Lib.hid (blk_alloc HDa.out (.cells #[.string y.f0, .slice Aq y.f1.length cq] 103))
        replace HEa := Lib.hid (blk_alloc HEa.out (.cells #[.string y.f0, .slice Aq y.f1.length cq] 103))
        replace HBa := Lib.hid (HBa.out.alloc HBa.out.size (.cells #[.string y.f0, .slice Aq y.f1.length cq] 103))
        replace HQa := Lib.hid (Kd.R_alloc HQa.out (.cells #[.string y.f0, .slice Aq y.f1.length cq] 103))
        go_upto_region 5 with (fail)
        clear e0 e1
        generalize wr.alloc (.cells #[.string y.f0, .slice Aq y.f1.length cq] 103) = wa at *
        refine start_ (n := 14) (S := (fun w' => w'.cell? ⟨go, 1, none⟩ = some (.slice Ai k ci) ∧ w'.cell? ⟨wr.heap.size, 0, none⟩ = some (.string y.f0) ∧ w'.cell? ⟨wr.heap.size, 1, none⟩ = some (.slice Aq y.f1.length cq))) (ds := [13]) #[false, false, false, false, false, false, false, false, false, false, false, false, false, false] (by kernel_rfl) rfl rfl ⟨blk_at HGa.out 1 rfl, blk_at HXa.out 0 rfl, blk_at HXa.out 1 rfl⟩ (fun hHeld => ?_)
        have HGW : Hid (wa.drew.heap[go]? = some (.cells #[.int .i64 x.f0.f0, .slice Ai k ci, .slice none 0 0, .slice Av p cv] 40 (0, 0))) := HGa
        have HXW : Hid (wa.drew.heap[wr.heap.size]? = some (.cells #[.string y.f0, .slice Aq y.f1.length cq] 103 (0, 0))) := HXa
        have HOW : Hid (Kd.R k103 103 wa.drew w.heap.size (fun _ => True) (.slice Ai k ci) (x.f0.f1.take k)) := Lib.hid (Kd.R_drew HOa.out)
        have HDW : Hid (wa.drew.heap[w.heap.size]? = some (.cells #[.int .i64 x.f0.f0, .slice (some ad) m c1, .slice A2 n c2, .slice A3 p c3] 40 (0, 0))) := HDa
        have HEW : Hid (wa.drew.heap[w.heap.size + 1]? = some (.cells #[.int .i64 0, .slice none 0 0, .slice none 0 0, .slice none 0 0] 40 (0, 0))) := HEa
        have HBW : Hid (Below w.heap.size w wa.drew) := Lib.hid HBa.out.drew
        have HBr : Hid (Below wr.heap.size wr wa.drew) := Lib.hid HBs.out.drew
        have HQW := Lib.hid (Kd.R_drew HQa.out)
        clear HGa HOa HDa HEa HBa HXa HBs HQa
        generalize wa.drew = W at *
        refine pure_ (i := 0) (N := some 24) (v := ?_) (a' := ?_) #[true, false, false, false, false, false, false, false, false, false, false, false, false, false] rfl rfl (by kernel_rfl) (fun _ _ _ h => h) (Or.inl ⟨by rfl, ?_⟩) ?_ ?_
        rotate_left
        · intro w'
          go_simp
          with_reducible rfl
        rotate_left
        · simp only [Act.put, List.setIfInBounds_toArray, List.set_cons_zero, List.set_cons_succ]
          rfl
        refine pure_ (i := 1) (N := some 25) (v := ?_) (a' := ?_) #[true, true, false, false, false, false, false, false, false, false, false, false, false, false] rfl rfl (by kernel_rfl) (fun _ _ _ h => h) (Or.inl ⟨by rfl, ?_⟩) ?_ ?_
        rotate_left
        · intro w'
          go_simp
          with_reducible rfl
        rotate_left
        · simp only [Act.put, List.setIfInBounds_toArray, List.set_cons_zero, List.set_cons_succ]
          rfl
        refine take_ (i := 2) (N := some 26) (v := ?_) (a' := ?_) #[true, true, true, false, false, false, false, false, false, false, false, false, false, false] rfl rfl (by kernel_rfl) (fun _ _ _ h => h) (Or.inl ⟨by rfl, ?_⟩) hHeld ?_ ?_
        rotate_left
        · rintro w' ⟨s0, s1, s2⟩
          go_simp
          with_reducible rfl
        rotate_left
        · simp only [Act.put, List.setIfInBounds_toArray, List.set_cons_zero, List.set_cons_succ]
          rfl
        refine pure_ (i := 3) (N := some 27) (v := ?_) (a' := ?_) #[true, true, true, true, false, false, false, false, false, false, false, false, false, false] rfl rfl (by kernel_rfl) (fun _ _ _ h => h) (Or.inl ⟨by rfl, ?_⟩) ?_ ?_
        rotate_left
        · intro w'
          go_simp
          with_reducible rfl
        rotate_left
        · simp only [Act.put, List.setIfInBounds_toArray, List.set_cons_zero, List.set_cons_succ]
          rfl
        refine take_ (i := 4) (N := some 28) (v := ?_) (a' := ?_) #[true, true, true, true, true, false, false, false, false, false, false, false, false, false] rfl rfl (by kernel_rfl) (fun _ _ _ h => h) (Or.inl ⟨by rfl, ?_⟩) hHeld ?_ ?_
        rotate_left
        · rintro w' ⟨s0, s1, s2⟩
          go_simp
          with_reducible rfl
        rotate_left
        · simp only [Act.put, List.setIfInBounds_toArray, List.set_cons_zero, List.set_cons_succ]
          rfl
        refine pure_ (i := 5) (N := some 29) (v := ?_) (a' := ?_) #[true, true, true, true, true, true, false, false, false, false, false, false, false, false] rfl rfl (by kernel_rfl) (fun _ _ _ h => h) (Or.inl ⟨by rfl, ?_⟩) ?_ ?_
        rotate_left
        · intro w'
          go_simp
          with_reducible rfl
        rotate_left
        · simp only [Act.put, List.setIfInBounds_toArray, List.set_cons_zero, List.set_cons_succ]
          rfl
        refine take_ (i := 6) (N := some 30) (v := ?_) (a' := ?_) #[true, true, true, true, true, true, true, false, false, false, false, false, false, false] rfl rfl (by kernel_rfl) (fun _ _ _ h => h) (Or.inl ⟨by rfl, ?_⟩) hHeld ?_ ?_
        rotate_left
        · rintro w' ⟨s0, s1, s2⟩
          go_simp
          with_reducible rfl
        rotate_left
        · simp only [Act.put, List.setIfInBounds_toArray, List.set_cons_zero, List.set_cons_succ]
          rfl
        refine one_ (i := 7) (N := some 31) #[true, true, true, true, true, true, true, true, false, false, false, false, false, false] rfl rfl (by kernel_rfl) (by decide) (fun K hK => ?_)
        refine goes_ Try.func46 (by kernel_rfl) rfl #[.slice Aq y.f1.length cq] (by rfl) rfl rfl (by simp only [List.map_toArray, List.map_cons, List.map_nil]; rfl) ?_
        refine (HZ.out W HBr.out).mono ?_
        rintro e w1 ⟨v1, rfl, hv1, hb1⟩
        refine ⟨_, rfl, ?_⟩
        obtain ⟨Aw, cw, rfl⟩ := Kd.R_slice hv1.out
        have HG1 := Lib.hid (blk_below HGW.out hb1.out)
        have HX1 := Lib.hid (blk_below HXW.out hb1.out)
        have HO1 := Lib.hid (Kd.R_below HOW.out hb1.out)
        have HD1 := Lib.hid (blk_below HDW.out hb1.out)
        have HE1 := Lib.hid (blk_below HEW.out hb1.out)
        have HB1 := Lib.hid (HBW.out.trans (hb1.out.mono HBW.out.size))
        have HQ1 := Lib.hid (Kd.R_below HQW.out hb1.out)
        have HNV := Kd.R_lower (Kd.R_new' hv1.out (Kd.R_lt HOW.out)) HBW.out.size
        have HNV := Lib.hid HNV
        refine hK.out _ _ ⟨blk_at HG1.out 1 rfl, blk_at HX1.out 0 rfl, blk_at HX1.out 1 rfl⟩ (fun hHeld => ?_)
        clear hK K hv1 hb1 HGW HOW HDW HEW HBW HXW HQW
        refine norm_ (a' := ?_) ?_ ?_
        rotate_left
        · show Act.put _ (some 31) _ = _
          simp only [Act.put, List.setIfInBounds_toArray, List.set_cons_zero, List.set_cons_succ]
          rfl
        refine pure_ (i := 8) (N := some 32) (v := ?_) (a' := ?_) #[true, true, true, true, true, true, true, true, true, false, false, false, false, false] rfl rfl (by kernel_rfl) (fun _ _ _ h => h) (Or.inl ⟨by rfl, ?_⟩) ?_ ?_
        rotate_left
        · intro w'
          go_simp
          with_reducible rfl
        rotate_left
        · simp only [Act.put, List.setIfInBounds_toArray, List.set_cons_zero, List.set_cons_succ]
          rfl
        refine one_ (i := 9) (N := some 33) #[true, true, true, true, true, true, true, true, true, true, false, false, false, false] rfl rfl (by kernel_rfl) (by decide) (fun K hK => ?_)
        refine value_ (w1 := ?_) (v := ?_) (by rfl) rfl ?_ ?_
        rotate_left 2
        · go_simp
          constructor
          · rfl
          · rfl
        refine hK.out _ _ ⟨blk_at (Lib.hid (blk_alloc HG1.out _)).out 1 rfl, blk_at (Lib.hid (blk_alloc HX1.out _)).out 0 rfl, blk_at (Lib.hid (blk_alloc HX1.out _)).out 1 rfl⟩ (fun hHeld => ?_)
        clear hK K
        refine norm_ (a' := ?_) ?_ ?_
        rotate_left
        · show Act.put _ (some 33) _ = _
          simp only [Act.put, List.setIfInBounds_toArray, List.set_cons_zero, List.set_cons_succ]
          rfl
        refine one_ (i := 10) (N := some 34) #[true, true, true, true, true, true, true, true, true, true, true, false, false, false] rfl rfl (by kernel_rfl) (by decide) (fun K hK => ?_)
        refine Kd.R_append_step k103 (w0 := w) (W := w1) w.heap.size (by rfl) (.tmp 26) (.tmp 33) 34 103 (.agg #[.string ⟨#[]⟩, .slice none 0 0]) 40 rfl Try.underlying34 info103 rfl (show 0 < 2 by decide) (by decide) (.slice Ai k ci) (x.f0.f1.take k) y _ (fun _ => True) (fun k_ => True ∧ some k_ ≠ (Value.slice Ai k ci).ownBlock) rfl rfl ?hp (fun _ hk => hk) (fun _ _ => trivial) HO1.out HB1.out ?hS ?hl ?_
        case hp => have HNV := HNV.out; exact k103_mkM _ _ _ y HNV
        case hS => exact HB1.out.size
        case hl => rw [List.length_take]; have := Hlm.out; omega
        intro v2 w2 HO2 HB2 hg2 hat2
        rw [← Htk.out] at HO2
        have hlen2 : (x.f0.f1.take (k + 1)).length = k + 1 := Hlk.out
        obtain ⟨A2', cp2, e2⟩ := Kd.R_slice HO2
        rw [hlen2] at e2
        subst e2
        have HO2 := Lib.hid HO2
        have HB2 := Lib.hid HB2
        have HG2 := Lib.hid (blk_grown HG1.out hg2 (Kd.R_ne HO1.out HG1.out (by decide)))
        have HD2 := Lib.hid (blk_grown HD1.out hg2 (Kd.R_ne HO1.out HD1.out (by decide)))
        have HE2 := Lib.hid (blk_grown HE1.out hg2 (Kd.R_ne HO1.out HE1.out (by decide)))
        have HX2 := Lib.hid (blk_grown HX1.out hg2 (fun e => by have := HLU.out _ e.symm; omega))
        have HQ2 := Lib.hid (Kd.R_over HQ1.out HO1.out e83_103 hg2)
        refine hK.out _ _ ⟨blk_at HG2.out 1 rfl, blk_at HX2.out 0 rfl, blk_at HX2.out 1 rfl⟩ (fun hHeld => ?_)
        clear hK K hlen2 hg2 hat2 HG1 HO1 HD1 HE1 HB1 HX1 HQ1
        refine norm_ (a' := ?_) ?_ ?_
        rotate_left
        · show Act.put _ (some 34) _ = _
          simp only [Act.put, List.setIfInBounds_toArray, List.set_cons_zero, List.set_cons_succ]
          rfl
        refine pure_ (i := 11) (N := some 35) (v := ?_) (a' := ?_) #[true, true, true, true, true, true, true, true, true, true, true, true, false, false] rfl rfl (by kernel_rfl) (fun _ _ _ h => h) (Or.inl ⟨by rfl, ?_⟩) ?_ ?_
        rotate_left
        · intro w'
          go_simp
          with_reducible rfl
        rotate_left
        · simp only [Act.put, List.setIfInBounds_toArray, List.set_cons_zero, List.set_cons_succ]
          rfl
        refine pure_ (i := 12) (N := some 36) (v := ?_) (a' := ?_) #[true, true, true, true, true, true, true, true, true, true, true, true, true, false] rfl rfl (by kernel_rfl) (fun _ _ _ h => h) (Or.inl ⟨by rfl, ?_⟩) ?_ ?_
        rotate_left
        · intro w'
          go_simp
          with_reducible rfl
        rotate_left
        · simp only [Act.put, List.setIfInBounds_toArray, List.set_cons_zero, List.set_cons_succ]
          rfl
        refine last_ (i := 13) (N := none) #[true, true, true, true, true, true, true, true, true, true, true, true, true, true] rfl rfl (by kernel_rfl) (by decide) (fun K hK => ?_)
        have y0 : w2.cell? ⟨go, 1, none⟩ = some (.slice Ai k ci) := blk_at HG2.out 1 rfl
        have z0 : w2.frozen? ⟨go, 1, none⟩ = false := blk_frozen HG2.out 1
        refine skip_ (w1 := w2.setCell ⟨go, 1, none⟩ (.slice A2' (k + 1) cp2)) (by rfl) rfl (by go_simp) ?_
        have HG3 := Lib.hid (blk_put HG2.out 1 (.slice A2' (k + 1) cp2) rfl)
        have HO3 := Lib.hid (Kd.R_set HO2.out HG2.out e103 1 (.slice A2' (k + 1) cp2))
        have HD3 := Lib.hid (blk_far HD2.out (p := ⟨go, 1, none⟩) n0 (.slice A2' (k + 1) cp2))
        have HE3 := Lib.hid (blk_far HE2.out (p := ⟨go, 1, none⟩) n1 (.slice A2' (k + 1) cp2))
        have HB3 := Lib.hid (HB2.out.setCell (p := ⟨go, 1, none⟩) (by have := Hgo.out; simp only []; omega) (.slice A2' (k + 1) cp2))
        have HQ3 := Lib.hid (Kd.R_set HQ2.out HG2.out e83 1 (.slice A2' (k + 1) cp2))
        refine hK.out _ _ ?_
        clear hK K y0 z0 HG2 HO2 HD2 HE2 HB2 HQ2
        refine done_ (by kernel_rfl) ?_
        go_wp2_with (fail)
        go_roundw
        case rel => exact ⟨k + 1, A2', cp2, by omega, by go_num, HG3, HO3, HD3, HE3, HB3, HQ3⟩
        case measure => simp [intOf]; omega
      · obtain rfl : k = m := by omega
        rw [List.take_of_length_le (by rw [Hm.out]; exact Nat.le_refl _)] at HOa
        go_wp2_with (fail)
        go_meet
        exact ⟨Ai, ci, HGa, HOa, HDa, HEa, HBa, HQa⟩
  case rest =>
  clear HG0 HD0 HE0 HB0 HQ0
  obtain ⟨Ac, cc, HG0, HC0, HD0, HE0, HB0, HQ0⟩ := hcut
  have q2 : wc.cell? ⟨w.heap.size, 2, none⟩ = some (.slice A2 n c2) := blk_at HD0.out 2 rfl
  go_wp2_with (fail)
  clear q2
  go_loopw [41] (fun v41 wr => ∃ k Ai ci, k ≤ n ∧ v41 = .int .i64 (k : Nat) ∧ Hid (wr.heap[go]? = some (.cells #[.int .i64 x.f0.f0, .slice Ac m cc, .slice Ai k ci, .slice Av p cv] 40 (0, 0))) ∧ Hid (Kd.R (Kd.slice 83 k83) 38 wr w.heap.size (fun _ => True) (.slice Ai k ci) (x.f1.take k)) ∧ Hid (wr.heap[w.heap.size]? = some (.cells #[.int .i64 x.f0.f0, .slice A1 m c1, .slice A2 n c2, .slice A3 p c3] 40 (0, 0))) ∧ Hid (wr.heap[w.heap.size + 1]? = some (.cells #[.int .i64 0, .slice none 0 0, .slice none 0 0, .slice none 0 0] 40 (0, 0))) ∧ Hid (Below w.heap.size w wr) ∧ Hid (Kd.R k83 83 wr w.heap.size (fun _ => True) (.slice Av p cv) x.f2) ∧ Hid (Kd.R k103 103 wr w.heap.size (fun _ => True) (.slice Ac m cc) x.f0.f1)) (fun v41 _ => n - (intOf v41).toNat)
  case atStart => exact ⟨0, none, 0, Nat.zero_le _, rfl, HG0, Lib.hid (Kd.R_nil _ _ _ _ _), HD0, HE0, HB0, HQ0, HC0⟩
  case round =>
    clear HG0 HD0 HE0 HB0 HQ0 HC0
    obtain ⟨k, Ai, ci, hk, rfl, HGa, HOa, HDa, HEa, HBa, HQa, HCa⟩ := hrel
    by_cases hlt : k < n
    · obtain ⟨ad, Aq, cq, rfl, e0, hlq, hCq⟩ := at_L7 HC2.out (k : Int) (by omega) (by rw [← Hn.out]; omega)
      have hmem : rd_L7 x.f1 (k : Int) ∈ x.f1 := getD_mem _ _ _ (by rw [Int.toNat_natCast, ← Hn.out]; exact hlt)
      have htk : x.f1.take (k + 1) = x.f1.take k ++ [rd_L7 x.f1 (k : Int)] := take_getD _ _ _ (by rw [← Hn.out]; exact hlt)
      generalize rd_L7 x.f1 (k : Int) = y at *
      have Htk := Lib.hid htk
      have Hmem := Lib.hid hmem
      have HCq := Lib.hid hCq
      have Hlq := Lib.hid hlq
      have HBk := HBa
      have Hlk : Hid ((x.f1.take (k + 1)).length = k + 1) := Lib.hid (by rw [List.length_take, ← Hn.out]; omega)
      have Hlm : Hid (x.f1.length ≤ 100000) := Lib.hid (by have := Hn.out; omega)
      have HLU := Lib.hid (Kd.R_lt HOa.out)
      have n0 : w.heap.size ≠ go := by have := Hgo.out; omega
      have n1 : w.heap.size + 1 ≠ go := by have := Hgo.out; omega
      rw [Int.toNat_natCast] at e0
      replace e0 := pw_cell_below HBa.out e0
      have HZ : Hid (∀ W : World, Below wr.heap.size wr W → Calls Try.prog 45 #[.slice Aq y.length cq] W fun e w' => ∃ v, e = .returned v ∧ Hid (Kd.R k83 83 w' W.heap.size (fun _ => True) v y) ∧ Hid (Below W.heap.size W w')) := Lib.hid (fun W hW => records45 y Aq cq W (Kd.C_below HCq.out (HBk.out.trans (hW.mono HBk.out.size))) (by have h1 := partsLs_mem Hmem.out; have h2 := Hpp.out; unfold partsP at h2; omega))
      clear htk hmem hCq hlq
      go_upto_region 10 with (fail)
      clear e0
      refine start_ (n := 8) (S := (fun w' => w'.cell? ⟨go, 2, none⟩ = some (.slice Ai k ci))) (ds := [7]) #[false, false, false, false, false, false, false, false] (by kernel_rfl) rfl rfl (blk_at HGa.out 2 rfl) (fun hHeld => ?_)
      have HGW : Hid (wr.drew.heap[go]? = some (.cells #[.int .i64 x.f0.f0, .slice Ac m cc, .slice Ai k ci, .slice Av p cv] 40 (0, 0))) := HGa
      have HOW : Hid (Kd.R (Kd.slice 83 k83) 38 wr.drew w.heap.size (fun _ => True) (.slice Ai k ci) (x.f1.take k)) := Lib.hid (Kd.R_drew HOa.out)
      have HDW : Hid (wr.drew.heap[w.heap.size]? = some (.cells #[.int .i64 x.f0.f0, .slice A1 m c1, .slice (some ad) n c2, .slice A3 p c3] 40 (0, 0))) := HDa
      have HEW : Hid (wr.drew.heap[w.heap.size + 1]? = some (.cells #[.int .i64 0, .slice none 0 0, .slice none 0 0, .slice none 0 0] 40 (0, 0))) := HEa
      have HBW : Hid (Below w.heap.size w wr.drew) := Lib.hid HBa.out.drew
      have HBr : Hid (Below wr.heap.size wr wr.drew) := Lib.hid (Below.refl _ _).drew
      have HQW := Lib.hid (Kd.R_drew HQa.out)
      have HCW := Lib.hid (Kd.R_drew HCa.out)
      clear HGa HOa HDa HEa HBa HQa HCa
      generalize wr.drew = W at *
      refine pure_ (i := 0) (N := some 45) (v := ?_) (a' := ?_) #[true, false, false, false, false, false, false, false] rfl rfl (by kernel_rfl) (fun _ _ _ h => h) (Or.inl ⟨by rfl, ?_⟩) ?_ ?_
      rotate_left
      · intro w'
        go_simp
        with_reducible rfl
      rotate_left
      · simp only [Act.put, List.setIfInBounds_toArray, List.set_cons_zero, List.set_cons_succ]
        rfl
      refine take_ (i := 1) (N := some 46) (v := ?_) (a' := ?_) #[true, true, false, false, false, false, false, false] rfl rfl (by kernel_rfl) (fun _ _ _ h => h) (Or.inl ⟨by rfl, ?_⟩) hHeld ?_ ?_
      rotate_left
      · intro w' s0
        go_simp
        with_reducible rfl
      rotate_left
      · simp only [Act.put, List.setIfInBounds_toArray, List.set_cons_zero, List.set_cons_succ]
        rfl
      refine pure_ (i := 2) (N := some 47) (v := ?_) (a' := ?_) #[true, true, true, false, false, false, false, false] rfl rfl (by kernel_rfl) (fun _ _ _ h => h) (Or.inl ⟨by rfl, ?_⟩) ?_ ?_
      rotate_left
      · intro w'
        go_simp
        with_reducible rfl
      rotate_left
      · simp only [Act.put, List.setIfInBounds_toArray, List.set_cons_zero, List.set_cons_succ]
        rfl
      refine one_ (i := 3) (N := some 48) #[true, true, true, true, false, false, false, false] rfl rfl (by kernel_rfl) (by decide) (fun K hK => ?_)
      refine goes_ Try.func45 (by kernel_rfl) rfl #[.slice Aq y.length cq] (by rfl) rfl rfl (by simp only [List.map_toArray, List.map_cons, List.map_nil]; rfl) ?_
      refine (HZ.out W HBr.out).mono ?_
      rintro e w1 ⟨v1, rfl, hv1, hb1⟩
      refine ⟨_, rfl, ?_⟩
      obtain ⟨Aw, cw, rfl⟩ := Kd.R_slice hv1.out
      have HG1 := Lib.hid (blk_below HGW.out hb1.out)
      have HO1 := Lib.hid (Kd.R_below HOW.out hb1.out)
      have HD1 := Lib.hid (blk_below HDW.out hb1.out)
      have HE1 := Lib.hid (blk_below HEW.out hb1.out)
      have HB1 := Lib.hid (HBW.out.trans (hb1.out.mono HBW.out.size))
      have HQ1 := Lib.hid (Kd.R_below HQW.out hb1.out)
      have HC1 := Lib.hid (Kd.R_below HCW.out hb1.out)
      have HNV := Kd.R_lower (Kd.R_new' hv1.out (Kd.R_lt HOW.out)) HBW.out.size
      have HNV := Lib.hid HNV
      refine hK.out _ _ (blk_at HG1.out 2 rfl) (fun hHeld => ?_)
      clear hK K hv1 hb1 HGW HOW HDW HEW HBW HQW HCW
      refine norm_ (a' := ?_) ?_ ?_
      rotate_left
      · show Act.put _ (some 48) _ = _
        simp only [Act.put, List.setIfInBounds_toArray, List.set_cons_zero, List.set_cons_succ]
        rfl
      refine one_ (i := 4) (N := some 49) #[true, true, true, true, true, false, false, false] rfl rfl (by kernel_rfl) (by decide) (fun K hK => ?_)
      refine value_ (w1 := ?_) (v := ?_) (by rfl) rfl ?_ ?_
      rotate_left 2
      · go_simp
        constructor
        · rfl
        · rfl
      refine hK.out _ _ (blk_at (Lib.hid (blk_alloc HG1.out _)).out 2 rfl) (fun hHeld => ?_)
      clear hK K
      refine norm_ (a' := ?_) ?_ ?_
      rotate_left
      · show Act.put _ (some 49) _ = _
        simp only [Act.put, List.setIfInBounds_toArray, List.set_cons_zero, List.set_cons_succ]
        rfl
      refine one_ (i := 5) (N := some 50) #[true, true, true, true, true, true, false, false] rfl rfl (by kernel_rfl) (by decide) (fun K hK => ?_)
      refine Kd.R_append_step (Kd.slice 83 k83) (w0 := w) (W := w1) w.heap.size (by rfl) (.tmp 46) (.tmp 49) 37 38 (.slice none 0 0) 24 rfl Try.underlying37 info38 rfl (show 0 < 1 by decide) (by decide) (.slice Ai k ci) (x.f1.take k) y _ (fun _ => True) (fun k_ => True ∧ some k_ ≠ (Value.slice Ai k ci).ownBlock) rfl rfl ?hp (fun _ hk => hk) (fun _ _ => trivial) HO1.out HB1.out ?hS ?hl ?_
      case hp => have HNV := HNV.out; exact ⟨_, rfl, HNV⟩
      case hS => exact HB1.out.size
      case hl => rw [List.length_take]; have := Hlm.out; omega
      intro v2 w2 HO2 HB2 hg2 hat2
      rw [← Htk.out] at HO2
      have hlen2 : (x.f1.take (k + 1)).length = k + 1 := Hlk.out
      obtain ⟨A2', cp2, e2⟩ := Kd.R_slice HO2
      rw [hlen2] at e2
      subst e2
      have HO2 := Lib.hid HO2
      have HB2 := Lib.hid HB2
      have HG2 := Lib.hid (blk_grown HG1.out hg2 (Kd.R_ne HO1.out HG1.out (by decide)))
      have HD2 := Lib.hid (blk_grown HD1.out hg2 (Kd.R_ne HO1.out HD1.out (by decide)))
      have HE2 := Lib.hid (blk_grown HE1.out hg2 (Kd.R_ne HO1.out HE1.out (by decide)))
      have HQ2 := Lib.hid (Kd.R_over HQ1.out HO1.out e83_38 hg2)
      have HC2 := Lib.hid (Kd.R_over HC1.out HO1.out e103_38 hg2)
      refine hK.out _ _ (blk_at HG2.out 2 rfl) (fun hHeld => ?_)
      clear hK K hlen2 hg2 hat2 HG1 HO1 HD1 HE1 HB1 HQ1 HC1
      refine norm_ (a' := ?_) ?_ ?_
      rotate_left
      · show Act.put _ (some 50) _ = _
        simp only [Act.put, List.setIfInBounds_toArray, List.set_cons_zero, List.set_cons_succ]
        rfl
      refine pure_ (i := 6) (N := some 51) (v := ?_) (a' := ?_) #[true, true, true, true, true, true, true, false] rfl rfl (by kernel_rfl) (fun _ _ _ h => h) (Or.inl ⟨by rfl, ?_⟩) ?_ ?_
      rotate_left
      · intro w'
        go_simp
        with_reducible rfl
      rotate_left
      · simp only [Act.put, List.setIfInBounds_toArray, List.set_cons_zero, List.set_cons_succ]
        rfl
      refine last_ (i := 7) (N := none) #[true, true, true, true, true, true, true, true] rfl rfl (by kernel_rfl) (by decide) (fun K hK => ?_)
      have y0 : w2.cell? ⟨go, 2, none⟩ = some (.slice Ai k ci) := blk_at HG2.out 2 rfl
      have z0 : w2.frozen? ⟨go, 2, none⟩ = false := blk_frozen HG2.out 2
      refine skip_ (w1 := w2.setCell ⟨go, 2, none⟩ (.slice A2' (k + 1) cp2)) (by rfl) rfl (by go_simp) ?_
      have HG3 := Lib.hid (blk_put HG2.out 2 (.slice A2' (k + 1) cp2) rfl)
      have HO3 := Lib.hid (Kd.R_set HO2.out HG2.out e38 2 (.slice A2' (k + 1) cp2))
      have HD3 := Lib.hid (blk_far HD2.out (p := ⟨go, 2, none⟩) n0 (.slice A2' (k + 1) cp2))
      have HE3 := Lib.hid (blk_far HE2.out (p := ⟨go, 2, none⟩) n1 (.slice A2' (k + 1) cp2))
      have HB3 := Lib.hid (HB2.out.setCell (p := ⟨go, 2, none⟩) (by have := Hgo.out; simp only []; omega) (.slice A2' (k + 1) cp2))
      have HQ3 := Lib.hid (Kd.R_set HQ2.out HG2.out e83 2 (.slice A2' (k + 1) cp2))
      have HC3 := Lib.hid (Kd.R_set HC2.out HG2.out e103 2 (.slice A2' (k + 1) cp2))
      refine hK.out _ _ ?_
      clear hK K y0 z0 HG2 HO2 HD2 HE2 HB2 HQ2 HC2
      refine done_ (by kernel_rfl) ?_
      go_wp2_with (fail)
      go_roundw
      case rel => exact ⟨k + 1, A2', cp2, by omega, by go_num, HG3, HO3, HD3, HE3, HB3, HQ3, HC3⟩
      case measure => simp [intOf]; omega
    · obtain rfl : k = n := by omega
      rw [List.take_of_length_le (by rw [Hn.out]; exact Nat.le_refl _)] at HOa
      have g0 : wr.cell? ⟨go, 0, none⟩ = some (.int .i64 x.f0.f0) := blk_at HGa.out 0 rfl
      have g1 : wr.cell? ⟨go, 1, none⟩ = some (.slice Ac m cc) := blk_at HGa.out 1 rfl
      have g2 : wr.cell? ⟨go, 2, none⟩ = some (.slice Ai k ci) := blk_at HGa.out 2 rfl
      have g3 : wr.cell? ⟨go, 3, none⟩ = some (.slice Av p cv) := blk_at HGa.out 3 rfl
      have y0 : wr.cell? ⟨w.heap.size + 1, 0, none⟩ = some (.int .i64 0) := blk_at HEa.out 0 rfl
      have z0 : wr.frozen? ⟨w.heap.size + 1, 0, none⟩ = false := blk_frozen HEa.out 0
      have y1 : wr.cell? ⟨w.heap.size + 1, 1, none⟩ = some (.slice none 0 0) := blk_at HEa.out 1 rfl
      have z1 : wr.frozen? ⟨w.heap.size + 1, 1, none⟩ = false := blk_frozen HEa.out 1
      have y2 : wr.cell? ⟨w.heap.size + 1, 2, none⟩ = some (.slice none 0 0) := blk_at HEa.out 2 rfl
      have z2 : wr.frozen? ⟨w.heap.size + 1, 2, none⟩ = false := blk_frozen HEa.out 2
      have y3 : wr.cell? ⟨w.heap.size + 1, 3, none⟩ = some (.slice none 0 0) := blk_at HEa.out 3 rfl
      have z3 : wr.frozen? ⟨w.heap.size + 1, 3, none⟩ = false := blk_frozen HEa.out 3
      go_wp2_with (fail)
      have hb1 := blk_put HEa.out 0 (.int .i64 x.f0.f0) rfl
      have hb2 := blk_put hb1 1 (.slice Ac m cc) rfl
      have hb3 := blk_put hb2 2 (.slice Ai k ci) rfl
      have hb4 := blk_put hb3 3 (.slice Av p cv) rfl
      refine bodyPost_ret (results_cell_row rfl _ _ (w.heap.size + 1) 40 #[.int .i64 x.f0.f0, .slice Ac m cc, .slice Ai k ci, .slice Av p cv] (0, 0) _ rfl hb4 Try.underlying40 rfl (by kernel_rfl)) rfl ⟨_, _, _, rfl, ?_, ?_, ?_, ?_⟩
      · exact Lib.hid (Kd.R_set (Kd.R_set (Kd.R_set (Kd.R_set HCa.out HEa.out e103 0 _) hb1 e103 1 _) hb2 e103 2 _) hb3 e103 3 _)
      · exact Lib.hid (Kd.R_set (Kd.R_set (Kd.R_set (Kd.R_set HOa.out HEa.out e38 0 _) hb1 e38 1 _) hb2 e38 2 _) hb3 e38 3 _)
      · exact Lib.hid (Kd.R_set (Kd.R_set (Kd.R_set (Kd.R_set HQa.out HEa.out e83 0 _) hb1 e83 1 _) hb2 e83 2 _) hb3 e83 3 _)
      · refine Lib.hid ?_
        iterate 4 refine Below.setCell ?_ (by simp) _
        exact HBa.out
end Go.Proofs.Ytcbaiplamaopeaa.PPostShots
