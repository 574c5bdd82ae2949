/- copyState: a state's copy is the same state in new memory. -/
import Derived.Test.YtomfknblehkocaaCR
namespace Go.Proofs.Ytomfknblehkocaa.C
open Go.RowKit Go.Proofs.YtomfknblehkocaaW.PrintWords Go.Proofs.YtomfknblehkocaaW.PrintLast
set_option linter.unusedVariables false
set_option linter.unusedSimpArgs false

set_option maxRecDepth 100000 in
set_option maxHeartbeats 4000000 in
theorem copyState43 (x : S34) (A : Option Addr) (c : Nat) (w : World) (hC : Kd.C k104 w A x.f1.length x.f1) (hc : x.f1.length ≤ c) (hp : partsC x.f1 ≤ 100000) :
    Calls Try.prog 43 #[.agg #[.int .i64 x.f0, .slice A x.f1.length c]] w fun e w' => ∃ v, e = .returned (.agg #[.int .i64 x.f0, v]) ∧ Hid (Kd.R k104 104 w' w.heap.size (fun _ => True) v x.f1) ∧ Hid (Below w.heap.size w w') := by
  obtain ⟨n, hn⟩ : ∃ n, n = x.f1.length := ⟨_, rfl⟩
  have HC := Lib.hid hC
  have Hc := Lib.hid hc
  have Hp := Lib.hid hp
  have Hn := Lib.hid hn
  clear hC hc hp
  rw [← hn]
  clear hn
  go_enter Try.func43, Try.ntmps43
  go_wp2
  go_loopw [3, 4] (fun v3 v4 wr => ∃ k : Nat, k ≤ n ∧ v4 = .int .i64 k ∧ Hid (Kd.R k104 104 wr (w.heap.size + 2) (fun _ => True) v3 (x.f1.take k)) ∧ Hid (Below w.heap.size w wr) ∧ Hid (wr.heap[w.heap.size]? = some (.cells #[.int .i64 x.f0, .slice A n c] 34 (0, 0))) ∧ Hid (wr.heap[w.heap.size + 1]? = some (.cells #[.int .i64 0, .slice none 0 0] 34 (0, 0)))) (fun _ v4 _ => n - (intOf v4).toNat)
  case atStart =>
    refine ⟨0, Nat.zero_le _, rfl, Kd.R_nil _ _ _ _ _, ?_, ?_, ?_⟩
    · exact ((Below.refl _ _).alloc (Nat.le_refl _) _).alloc (by simp) _
    · exact blk_alloc (blk_new w _) _
    · have := blk_new (w.alloc (.cells #[.int .i64 x.f0, .slice A n c] 34)) (.cells #[.int .i64 0, .slice none 0 0] 34)
      simp only [World.size_alloc] at this
      exact this
  case round =>
    obtain ⟨k, hk, rfl, HO, HB, B1, B2⟩ := hrel
    have hkl : (x.f1.take k).length = k := by rw [List.length_take, ← Hn.out]; omega
    obtain ⟨Ao, co, hv⟩ := Kd.R_slice HO.out
    rw [hkl] at hv
    subst hv
    clear hkl
    have q0 : wr.cell? ⟨w.heap.size, 0, none⟩ = some (.int .i64 x.f0) := blk_at B1.out 0 rfl
    have f0 : wr.frozen? ⟨w.heap.size, 0, none⟩ = false := blk_frozen B1.out 0
    have q1 : wr.cell? ⟨w.heap.size, 1, none⟩ = some (.slice A n c) := blk_at B1.out 1 rfl
    have f1 : wr.frozen? ⟨w.heap.size, 1, none⟩ = false := blk_frozen B1.out 1
    have d0 : wr.cell? ⟨(w.heap.size + 1), 0, none⟩ = some (.int .i64 0) := blk_at B2.out 0 rfl
    have g0 : wr.frozen? ⟨(w.heap.size + 1), 0, none⟩ = false := blk_frozen B2.out 0
    have d1 : wr.cell? ⟨(w.heap.size + 1), 1, none⟩ = some (.slice none 0 0) := blk_at B2.out 1 rfl
    have g1 : wr.frozen? ⟨(w.heap.size + 1), 1, none⟩ = false := blk_frozen B2.out 1
    by_cases hlt : k < n
    · obtain ⟨ad, A1, c1, rfl, e0, e1, hl1, hC1⟩ := at_T104 HC.out (k : Int) (by omega) (by rw [← Hn.out]; omega)
      have hmem : rd_T104 x.f1 (k : Int) ∈ x.f1 := getD_mem _ _ _ (by rw [Int.toNat_natCast, ← Hn.out]; exact hlt)
      have htk : x.f1.take (k + 1) = x.f1.take k ++ [rd_T104 x.f1 (k : Int)] := take_getD _ _ _ (by rw [← Hn.out]; exact hlt)
      generalize rd_T104 x.f1 (k : Int) = y at *
      have Htk := Lib.hid htk
      rw [Int.toNat_natCast] at e0 e1
      have Hadd : Hid ((ad.add (k * 2)).block < w.heap.size) := World.block_lt_of_cell? w _ e0
      have Hy0 := Lib.hid ((HB.out.cell (World.block_lt_of_cell? w _ e0)).trans e0)
      have Hy1 := Lib.hid ((HB.out.cell (World.block_lt_of_cell? w _ e1)).trans e1)
      clear e0 e1
      have hy0 := Hy0.out
      have hy1 := Hy1.out
      have hn64 : n ≤ 100000 := by
        have h1 := partsC_len x.f1
        have h2 := Hp.out
        have h3 := Hn.out
        omega
      have Hsz := Lib.hid (show w.heap.size + 2 ≤ wr.heap.size from blk_lt B2.out)
      obtain ⟨m, hm⟩ : ∃ m, m = y.f1.length := ⟨_, rfl⟩
      have Hm := Lib.hid hm
      rw [← hm] at hy1 hl1
      have HC1 := Lib.hid hC1
      have Hpy := Lib.hid (Nat.le_trans (partsC_mem hmem) Hp.out)
      clear hmem htk hC1 hl1 hm
      obtain ⟨wo, rfl⟩ : ∃ wo : World, wo = wr := ⟨_, rfl⟩
      go_wp2
      go_loopw [6] (fun v6 wi => ∃ j : Nat, j ≤ m ∧ v6 = .int .i64 j ∧ ∃ v, Hid (wi.heap[wo.heap.size]? = some (.cells #[.string y.f0, v] 104 (0, 0))) ∧ Hid (Kd.R k42 42 wi (wo.heap.size + 1) (fun _ => True) v (y.f1.take j)) ∧ Hid (Below wo.heap.size wo wi)) (fun v6 _ => m - (intOf v6).toNat)
      case atStart => exact ⟨0, Nat.zero_le _, rfl, _, blk_new _ _, Kd.R_nil _ _ _ _ _, (Below.refl _ _).alloc (Nat.le_refl _) _⟩
      case round =>
        obtain ⟨j, hj, rfl, v, Bg, HOi, HBi⟩ := hrel
        have hjl0 : (y.f1.take j).length = j := by rw [List.length_take, ← Hm.out]; omega
        obtain ⟨Ai, ci, hv⟩ := Kd.R_slice HOi.out
        rw [hjl0] at hv
        subst hv
        clear hjl0
        have Hszi := Lib.hid (show wo.heap.size + 1 ≤ wr.heap.size from blk_lt Bg.out)
        have h1 : wr.cell? ⟨w.heap.size, 1, none⟩ = some (.slice (some ad) n c) := pw_cell_below HBi.out (blk_at B1.out 1 rfl)
        have h2 : wr.cell? ⟨(ad.add (k * 2)).block, (ad.add (k * 2)).off + 1, none⟩ = some (.slice A1 m c1) := pw_cell_below HBi.out hy1
        by_cases hlj : j < m
        · have h0 : wr.cell? ⟨wo.heap.size, 1, none⟩ = some (.slice Ai j ci) := blk_at Bg.out 1 rfl
          obtain ⟨ai, A3, c3, rfl, e0, e1, e2, e3, hl3, hC3⟩ := at_T42 HC1.out (j : Int) (by omega) (by rw [← Hm.out]; omega)
          have hmem : rd_T42 y.f1 (j : Int) ∈ y.f1 := getD_mem _ _ _ (by rw [Int.toNat_natCast, ← Hm.out]; exact hlj)
          have htk : y.f1.take (j + 1) = y.f1.take j ++ [rd_T42 y.f1 (j : Int)] := take_getD _ _ _ (by rw [← Hm.out]; exact hlj)
          generalize rd_T42 y.f1 (j : Int) = z at *
          have Htk2 := Lib.hid htk
          rw [Int.toNat_natCast] at e0 e1 e2 e3
          have Haj : Hid ((ai.add (j * 4)).block < w.heap.size) := World.block_lt_of_cell? w _ e0
          have h3 : wr.cell? (ai.add (j * 4)) = some (.int .i64 z.f0) := pw_cell_below HBi.out (pw_cell_below HB.out e0)
          have h4 : wr.cell? ⟨(ai.add (j * 4)).block, (ai.add (j * 4)).off + 1, none⟩ = some (.int .i64 z.f1) := pw_cell_below HBi.out (pw_cell_below HB.out e1)
          have h5 : wr.cell? ⟨(ai.add (j * 4)).block, (ai.add (j * 4)).off + 2, none⟩ = some (.string z.f2) := pw_cell_below HBi.out (pw_cell_below HB.out e2)
          have h6 : wr.cell? ⟨(ai.add (j * 4)).block, (ai.add (j * 4)).off + 3, none⟩ = some (.slice A3 z.f3.length c3) := pw_cell_below HBi.out (pw_cell_below HB.out e3)
          have HZ : Hid (∀ W : World, Below wo.heap.size wo W → Calls Try.prog 41 #[.agg #[.int .i64 z.f0, .int .i64 z.f1, .string z.f2, .slice A3 z.f3.length c3]] W fun e w' => ∃ v, e = .returned (.agg #[.int .i64 z.f0, .int .i64 z.f1, .string z.f2, v]) ∧ Hid (Kd.R k42 42 w' W.heap.size (fun _ => True) v z.f3) ∧ Hid (Below W.heap.size W w')) := fun W hW => copyValue41 _ z (Nat.le_refl _) A3 c3 W (Kd.C_below (Kd.C_below hC3 HB.out) hW) hl3 (Nat.le_trans (partsV_mem hmem) Hpy.out)
          have hm64 : Hid (j + 1 ≤ 100000) := by
            have h1 := partsV_len y.f1
            have h2 := Hpy.out
            have h3 := Hm.out
            show _ ≤ _
            omega
          have hjl : Hid ((y.f1.take j ++ [z]).length = j + 1) := by
            show _ = _
            rw [List.length_append, List.length_take, ← Hm.out, List.length_singleton]
            omega
          have hblk : Hid ((ad.add (k * 2)).block < wo.heap.size + 1 ∧ (ai.add (j * 4)).block < wo.heap.size + 1) := by
            have h1 := Hadd.out
            have h2 := Haj.out
            have h3 := Hsz.out
            exact ⟨by omega, by omega⟩
          have hm64m : m ≤ 100000 := by
            have h1 := partsV_len y.f1
            have h2 := Hpy.out
            have h3 := Hm.out
            omega
          clear hmem htk hC3 hl3 e0 e1 e2 e3
          go_wp2
          refine start_ (n := 16) (S := (fun w' => w'.cell? ⟨wo.heap.size, 1, none⟩ = some (.slice Ai j ci) ∧ w'.cell? ⟨w.heap.size, 1, none⟩ = some (.slice (some ad) n c) ∧ w'.cell? ⟨(ad.add (k * 2)).block, (ad.add (k * 2)).off + 1, none⟩ = some (.slice (some ai) m c1) ∧ w'.cell? (ai.add (j * 4)) = some (.int .i64 z.f0) ∧ w'.cell? ⟨(ai.add (j * 4)).block, (ai.add (j * 4)).off + 1, none⟩ = some (.int .i64 z.f1) ∧ w'.cell? ⟨(ai.add (j * 4)).block, (ai.add (j * 4)).off + 2, none⟩ = some (.string z.f2) ∧ w'.cell? ⟨(ai.add (j * 4)).block, (ai.add (j * 4)).off + 3, none⟩ = some (.slice A3 z.f3.length c3))) (ds := [15]) #[false, false, false, false, false, false, false, false, false, false, false, false, false, false, false, false] (by kernel_rfl) rfl rfl ⟨h0, h1, h2, h3, h4, h5, h6⟩ (fun hHeld => ?_)
          have hHeld0 := Lib.hid hHeld
          have HOw : Hid (Kd.R k42 42 wr.drew (wo.heap.size + 1) (fun _ => True) (.slice Ai j ci) (y.f1.take j)) := Kd.R_drew HOi.out
          have Bgw : Hid (wr.drew.heap[wo.heap.size]? = some (.cells #[.string y.f0, .slice Ai j ci] 104 (0, 0))) := Bg.out
          have hBo : Hid (Below wo.heap.size wo wr.drew) := HBi.out.drew
          have HszW : Hid (wo.heap.size + 1 ≤ wr.drew.heap.size) := Hszi.out
          generalize wr.drew = W at hHeld hHeld0 HOw Bgw hBo HszW ⊢
          refine pure_ (i := 0) (N := some 32) (v := ?_) (a' := ?_) #[true, false, false, false, false, false, false, false, false, false, false, false, false, false, false, false] rfl rfl (by kernel_rfl) (fun _ _ _ h => h) (Or.inl ⟨by rfl, ?_⟩) ?_ ?_
          rotate_left
          · intro w'
            go_simp
            with_reducible rfl
          rotate_left
          · simp only [Act.put, List.setIfInBounds_toArray, List.set_cons_zero, List.set_cons_succ]
            rfl
          refine take_ (i := 1) (N := some 33) (v := ?_) (a' := ?_) #[true, true, false, false, false, false, false, false, false, false, false, false, false, false, false, false] rfl rfl (by kernel_rfl) (fun _ _ _ h => h) (Or.inl ⟨by rfl, ?_⟩) hHeld ?_ ?_
          rotate_left
          · rintro w' ⟨s0, s1, s2, s3, s4, s5, s6⟩
            go_simp
            with_reducible rfl
          rotate_left
          · simp only [Act.put, List.setIfInBounds_toArray, List.set_cons_zero, List.set_cons_succ]
            rfl
          refine pure_ (i := 2) (N := some 34) (v := ?_) (a' := ?_) #[true, true, true, false, false, false, false, false, false, false, false, false, false, false, false, false] rfl rfl (by kernel_rfl) (fun _ _ _ h => h) (Or.inl ⟨by rfl, ?_⟩) ?_ ?_
          rotate_left
          · intro w'
            go_simp
            with_reducible rfl
          rotate_left
          · simp only [Act.put, List.setIfInBounds_toArray, List.set_cons_zero, List.set_cons_succ]
            rfl
          refine take_ (i := 3) (N := some 35) (v := ?_) (a' := ?_) #[true, true, true, true, false, false, false, false, false, false, false, false, false, false, false, false] rfl rfl (by kernel_rfl) (fun _ _ _ h => h) (Or.inl ⟨by rfl, ?_⟩) hHeld ?_ ?_
          rotate_left
          · rintro w' ⟨s0, s1, s2, s3, s4, s5, s6⟩
            go_simp
            with_reducible rfl
          rotate_left
          · simp only [Act.put, List.setIfInBounds_toArray, List.set_cons_zero, List.set_cons_succ]
            rfl
          refine pure_ (i := 4) (N := some 36) (v := ?_) (a' := ?_) #[true, true, true, true, true, false, false, false, false, false, false, false, false, false, false, false] rfl rfl (by kernel_rfl) (fun _ _ _ h => h) (Or.inl ⟨by rfl, ?_⟩) ?_ ?_
          rotate_left
          · intro w'
            go_simp
            with_reducible rfl
          rotate_left
          · simp only [Act.put, List.setIfInBounds_toArray, List.set_cons_zero, List.set_cons_succ]
            rfl
          refine pure_ (i := 5) (N := some 37) (v := ?_) (a' := ?_) #[true, true, true, true, true, true, false, false, false, false, false, false, false, false, false, false] rfl rfl (by kernel_rfl) (fun _ _ _ h => h) (Or.inl ⟨by rfl, ?_⟩) ?_ ?_
          rotate_left
          · intro w'
            go_simp
            with_reducible rfl
          rotate_left
          · simp only [Act.put, List.setIfInBounds_toArray, List.set_cons_zero, List.set_cons_succ]
            rfl
          refine pure_ (i := 6) (N := some 38) (v := ?_) (a' := ?_) #[true, true, true, true, true, true, true, false, false, false, false, false, false, false, false, false] rfl rfl (by kernel_rfl) (fun _ _ _ h => h) (Or.inl ⟨by rfl, ?_⟩) ?_ ?_
          rotate_left
          · intro w'
            go_simp
            with_reducible rfl
          rotate_left
          · simp only [Act.put, List.setIfInBounds_toArray, List.set_cons_zero, List.set_cons_succ]
            rfl
          refine take_ (i := 7) (N := some 39) (v := ?_) (a' := ?_) #[true, true, true, true, true, true, true, true, false, false, false, false, false, false, false, false] rfl rfl (by kernel_rfl) (fun _ _ _ h => h) (Or.inl ⟨by rfl, ?_⟩) hHeld ?_ ?_
          rotate_left
          · rintro w' ⟨s0, s1, s2, s3, s4, s5, s6⟩
            go_simp
            with_reducible rfl
          rotate_left
          · simp only [Act.put, List.setIfInBounds_toArray, List.set_cons_zero, List.set_cons_succ]
            rfl
          refine pure_ (i := 8) (N := some 40) (v := ?_) (a' := ?_) #[true, true, true, true, true, true, true, true, true, false, false, false, false, false, false, false] rfl rfl (by kernel_rfl) (fun _ _ _ h => h) (Or.inl ⟨by rfl, ?_⟩) ?_ ?_
          rotate_left
          · intro w'
            go_simp
            with_reducible rfl
          rotate_left
          · simp only [Act.put, List.setIfInBounds_toArray, List.set_cons_zero, List.set_cons_succ]
            rfl
          refine pure_ (i := 9) (N := some 41) (v := ?_) (a' := ?_) #[true, true, true, true, true, true, true, true, true, true, false, false, false, false, false, false] rfl rfl (by kernel_rfl) (fun _ _ _ h => h) (Or.inl ⟨by rfl, ?_⟩) ?_ ?_
          rotate_left
          · intro w'
            go_simp
            with_reducible rfl
          rotate_left
          · simp only [Act.put, List.setIfInBounds_toArray, List.set_cons_zero, List.set_cons_succ]
            rfl
          refine take_ (i := 10) (N := some 42) (v := ?_) (a' := ?_) #[true, true, true, true, true, true, true, true, true, true, true, false, false, false, false, false] rfl rfl (by kernel_rfl) (fun _ _ _ h => h) (Or.inl ⟨by rfl, ?_⟩) hHeld ?_ ?_
          rotate_left
          · rintro w' ⟨s0, s1, s2, s3, s4, s5, s6⟩
            go_simp
            with_reducible rfl
          rotate_left
          · simp only [Act.put, List.setIfInBounds_toArray, List.set_cons_zero, List.set_cons_succ]
            rfl
          refine one_ (i := 11) (N := some 43) #[true, true, true, true, true, true, true, true, true, true, true, true, false, false, false, false] rfl rfl (by kernel_rfl) (by decide) (fun K hK => ?_)
          refine goes_ Try.func41 (by kernel_rfl) rfl #[.agg #[.int .i64 z.f0, .int .i64 z.f1, .string z.f2, .slice A3 z.f3.length c3]] (by rfl) rfl rfl (by simp only [List.map_toArray, List.map_cons, List.map_nil]; rfl) ?_
          refine (HZ.out W hBo.out).mono ?_
          rintro e w1 ⟨v1, rfl, hv1, hb1⟩
          refine ⟨_, rfl, ?_⟩
          obtain ⟨Av, cv, rfl⟩ := Kd.R_slice hv1.out
          refine hK.out _ _ ⟨pw_cell_below hb1.out hHeld.1, pw_cell_below hb1.out hHeld.2.1, pw_cell_below hb1.out hHeld.2.2.1, pw_cell_below hb1.out hHeld.2.2.2.1, pw_cell_below hb1.out hHeld.2.2.2.2.1, pw_cell_below hb1.out hHeld.2.2.2.2.2.1, pw_cell_below hb1.out hHeld.2.2.2.2.2.2⟩ (fun hHeld => ?_)
          clear hK K
          refine norm_ (a' := ?_) ?_ ?_
          rotate_left
          · show Act.put _ (some 43) _ = _
            simp only [Act.put, List.setIfInBounds_toArray, List.set_cons_zero, List.set_cons_succ]
            rfl
          refine one_ (i := 12) (N := some 44) #[true, true, true, true, true, true, true, true, true, true, true, true, true, false, false, false] rfl rfl (by kernel_rfl) (by decide) (fun K hK => ?_)
          refine value_ (w1 := ?_) (v := ?_) (by rfl) rfl ?_ ?_
          rotate_left 2
          · go_simp
            constructor
            · rfl
            · rfl
          refine hK.out _ _ ⟨pw_cell_below ((Below.refl _ _).alloc (Nat.le_refl _) _) hHeld.1, pw_cell_below ((Below.refl _ _).alloc (Nat.le_refl _) _) hHeld.2.1, pw_cell_below ((Below.refl _ _).alloc (Nat.le_refl _) _) hHeld.2.2.1, pw_cell_below ((Below.refl _ _).alloc (Nat.le_refl _) _) hHeld.2.2.2.1, pw_cell_below ((Below.refl _ _).alloc (Nat.le_refl _) _) hHeld.2.2.2.2.1, pw_cell_below ((Below.refl _ _).alloc (Nat.le_refl _) _) hHeld.2.2.2.2.2.1, pw_cell_below ((Below.refl _ _).alloc (Nat.le_refl _) _) hHeld.2.2.2.2.2.2⟩ (fun hHeld => ?_)
          clear hK K
          refine norm_ (a' := ?_) ?_ ?_
          rotate_left
          · show Act.put _ (some 44) _ = _
            simp only [Act.put, List.setIfInBounds_toArray, List.set_cons_zero, List.set_cons_succ]
            rfl
          refine one_ (i := 13) (N := some 45) #[true, true, true, true, true, true, true, true, true, true, true, true, true, true, false, false] rfl rfl (by kernel_rfl) (by decide) (fun K hK => ?_)
          refine Kd.R_append_step k42 (w0 := W) (wo.heap.size + 1) (by rfl) (.tmp 33) (.tmp 44) 40 42 (.agg #[.int .i64 0, .int .i64 0, .string ⟨#[]⟩, .slice none 0 0]) 56 rfl Try.underlying40 info42 rfl (by decide) (by decide) (.slice Ai j ci) (y.f1.take j) z _ (fun _ => True) (fun k_ => True ∧ some k_ ≠ (Value.slice Ai j ci).ownBlock) rfl rfl ?hp (fun _ hk => hk) (fun _ _ => trivial) ?hO ?hB ?hS ?hl ?_
          case hp => exact k42_mkM _ _ _ z (Kd.R_lower (Kd.R_new' hv1.out (Kd.R_lt HOw.out)) HszW.out)
          case hO => exact Kd.R_below HOw.out hb1.out
          case hB => exact hb1.out.mono HszW.out
          case hS => exact Nat.le_trans HszW.out hb1.out.size
          case hl => rw [List.length_take]; have := hm64.out; omega
          intro v2 w2 HO2 HB2 hg2 hat2
          have HO2' := Lib.hid HO2
          have HB2' := Lib.hid HB2
          clear HO2 HB2 hg2 hat2
          have Bg2 := Lib.hid ((HB2'.out.block _ (Nat.lt_succ_self _)).trans Bgw.out)
          refine hK.out _ _ ?_ (fun hHeld => ?_)
          · have hx : ∀ a v, W.cell? a = some v → a.block < wo.heap.size + 1 → w2.cell? a = some v := fun a v h hlt => (World.cell?_of_block (HB2'.out.block _ hlt)).trans h
            exact ⟨hx _ _ hHeld0.out.1 (by simp), hx _ _ hHeld0.out.2.1 (by have := Hsz.out; simp only []; omega), hx _ _ hHeld0.out.2.2.1 (by have := hblk.out.1; simp only []; omega), hx _ _ hHeld0.out.2.2.2.1 (by have := hblk.out.2; omega), hx _ _ hHeld0.out.2.2.2.2.1 (by have := hblk.out.2; simp only []; omega), hx _ _ hHeld0.out.2.2.2.2.2.1 (by have := hblk.out.2; simp only []; omega), hx _ _ hHeld0.out.2.2.2.2.2.2 (by have := hblk.out.2; simp only []; omega)⟩
          clear hK K
          obtain ⟨A2, cp2, e2⟩ := Kd.R_slice HO2'.out
          rw [hjl.out] at e2
          subst e2
          refine norm_ (a' := ?_) ?_ ?_
          rotate_left
          · show Act.put _ (some 45) _ = _
            simp only [Act.put, List.setIfInBounds_toArray, List.set_cons_zero, List.set_cons_succ]
            rfl
          refine pure_ (i := 14) (N := some 46) (v := ?_) (a' := ?_) #[true, true, true, true, true, true, true, true, true, true, true, true, true, true, true, false] rfl rfl (by kernel_rfl) (fun _ _ _ h => h) (Or.inl ⟨by rfl, ?_⟩) ?_ ?_
          rotate_left
          · intro w'
            go_simp
            with_reducible rfl
          rotate_left
          · simp only [Act.put, List.setIfInBounds_toArray, List.set_cons_zero, List.set_cons_succ]
            rfl
          refine last_ (i := 15) (N := none) #[true, true, true, true, true, true, true, true, true, true, true, true, true, true, true, true] rfl rfl (by kernel_rfl) (by decide) (fun K hK => ?_)
          have hs := hHeld.1
          have hf : w2.frozen? ⟨wo.heap.size, 1, none⟩ = false := blk_frozen Bg2.out 1
          refine skip_ (w1 := ?_) (by rfl) rfl ?_ ?_
          rotate_left
          · go_simp
            rfl
          refine hK.out _ _ ?_
          clear hK K hs hf
          refine done_ (by kernel_rfl) ?_
          go_wp2
          go_roundw
          case rel =>
            refine ⟨j + 1, by omega, by go_num, .slice A2 (j + 1) cp2, ?_, ?_, ?_⟩
            · exact blk_put Bg2.out 1 _ rfl
            · rw [Htk2.out]
              exact R_low HO2'.out (by simp) _
            · refine Lib.hid ?_
              refine Below.setCell ?_ (by simp) _
              exact hBo.out.trans (HB2'.out.mono (by omega))
          case measure => simp [intOf]; omega
        · obtain rfl : j = m := by omega
          rw [List.take_of_length_le (by rw [Hm.out]; exact Nat.le_refl _)] at HOi
          have b0 : wr.cell? ⟨wo.heap.size, 0, none⟩ = some (.string y.f0) := blk_at Bg.out 0 rfl
          have b1 : wr.cell? ⟨wo.heap.size, 1, none⟩ = some (.slice Ai j ci) := blk_at Bg.out 1 rfl
          go_wp2_with (first
            | (at_builtin; refine Kd.R_append k104 (w0 := wr) (w.heap.size + 2) rfl (.tmp 47) (.tmp 49) 32 104 (.agg #[.string ⟨#[]⟩, .slice none 0 0]) 40 rfl Try.underlying32 info104 rfl (by decide) (by decide) (.slice Ao k co) (x.f1.take k) y _ (fun _ => True) (fun k_ => True ∧ some k_ ≠ (Value.slice Ao k co).ownBlock) rfl rfl ?hp (fun _ hk => hk) (fun _ _ => trivial) ?hO (Below.refl _ _) ?hS ?hl ?_
               case hp => exact k104_mkM _ _ _ y (Kd.R_mono (Kd.R_lower (Kd.R_bound HOi.out) (Nat.le_trans Hsz.out (Nat.le_succ _))) (fun i hi => ⟨trivial, fun e => by have := Kd.R_lt HO.out i e.symm; have := hi.2.1; omega⟩))
               case hO => exact Kd.R_below HO.out HBi.out
               case hS => exact Nat.le_trans Hsz.out HBi.out.size
               case hl => rw [List.length_take]; have := hn64; omega
               intro v2 w2 HO2 HB2 hg2 hat2
               have HO2' := Lib.hid HO2
               have HB2' := Lib.hid HB2
               clear HO2 HB2 hg2 hat2))
          go_roundw
          case rel =>
            refine ⟨k + 1, by omega, by go_num, ?_, ?_, ?_, ?_⟩
            · rw [Htk.out]; exact HO2'.out
            · exact (HB.out.trans (HBi.out.mono (by have := Hsz.out; omega))).trans (HB2'.out.mono (by omega))
            · exact (HB2'.out.block _ (by omega)).trans (blk_below B1.out HBi.out)
            · exact (HB2'.out.block _ (by omega)).trans (blk_below B2.out HBi.out)
          case measure => simp [intOf]; omega
    · go_wp2
      obtain rfl : k = n := by omega
      rw [List.take_of_length_le (by rw [Hn.out]; exact Nat.le_refl _)] at HO
      refine bodyPost_ret (results_cell_row rfl _ _ (w.heap.size + 1) 34 #[.int .i64 x.f0, .slice Ao k co] (0, 0) _ rfl ?_ Try.underlying34 rfl (by kernel_rfl)) rfl ⟨_, rfl, ?_, ?_⟩
      · exact blk_put (blk_put (blk_far B2.out (by simp) _) 0 _ rfl) 1 _ rfl
      · refine Lib.hid ?_
        refine Kd.R_lower (base := w.heap.size + 2) ?_ (Nat.le_add_right _ _)
        iterate 3 refine R_low ?_ (by simp only []; omega) _
        exact HO.out
      · refine Lib.hid ?_
        iterate 3 refine Below.setCell ?_ (by simp) _
        exact HB.out

set_option maxRecDepth 100000 in
set_option maxHeartbeats 4000000 in
theorem copyState65 (x : S34) (A : Option Addr) (c : Nat) (w : World) (hC : Kd.C k104 w A x.f1.length x.f1) (hc : x.f1.length ≤ c) (hp : partsC x.f1 ≤ 100000) :
    Calls Try.prog 65 #[.agg #[.int .i64 x.f0, .slice A x.f1.length c]] w fun e w' => ∃ v, e = .returned (.agg #[.int .i64 x.f0, v]) ∧ Hid (Kd.R k104 104 w' w.heap.size (fun _ => True) v x.f1) ∧ Hid (Below w.heap.size w w') := by
  obtain ⟨n, hn⟩ : ∃ n, n = x.f1.length := ⟨_, rfl⟩
  have HC := Lib.hid hC
  have Hc := Lib.hid hc
  have Hp := Lib.hid hp
  have Hn := Lib.hid hn
  clear hC hc hp
  rw [← hn]
  clear hn
  go_enter Try.func65, Try.ntmps65
  go_wp2
  go_loopw [3, 4] (fun v3 v4 wr => ∃ k : Nat, k ≤ n ∧ v4 = .int .i64 k ∧ Hid (Kd.R k104 104 wr (w.heap.size + 2) (fun _ => True) v3 (x.f1.take k)) ∧ Hid (Below w.heap.size w wr) ∧ Hid (wr.heap[w.heap.size]? = some (.cells #[.int .i64 x.f0, .slice A n c] 34 (0, 0))) ∧ Hid (wr.heap[w.heap.size + 1]? = some (.cells #[.int .i64 0, .slice none 0 0] 34 (0, 0)))) (fun _ v4 _ => n - (intOf v4).toNat)
  case atStart =>
    refine ⟨0, Nat.zero_le _, rfl, Kd.R_nil _ _ _ _ _, ?_, ?_, ?_⟩
    · exact ((Below.refl _ _).alloc (Nat.le_refl _) _).alloc (by simp) _
    · exact blk_alloc (blk_new w _) _
    · have := blk_new (w.alloc (.cells #[.int .i64 x.f0, .slice A n c] 34)) (.cells #[.int .i64 0, .slice none 0 0] 34)
      simp only [World.size_alloc] at this
      exact this
  case round =>
    obtain ⟨k, hk, rfl, HO, HB, B1, B2⟩ := hrel
    have hkl : (x.f1.take k).length = k := by rw [List.length_take, ← Hn.out]; omega
    obtain ⟨Ao, co, hv⟩ := Kd.R_slice HO.out
    rw [hkl] at hv
    subst hv
    clear hkl
    have q0 : wr.cell? ⟨w.heap.size, 0, none⟩ = some (.int .i64 x.f0) := blk_at B1.out 0 rfl
    have f0 : wr.frozen? ⟨w.heap.size, 0, none⟩ = false := blk_frozen B1.out 0
    have q1 : wr.cell? ⟨w.heap.size, 1, none⟩ = some (.slice A n c) := blk_at B1.out 1 rfl
    have f1 : wr.frozen? ⟨w.heap.size, 1, none⟩ = false := blk_frozen B1.out 1
    have d0 : wr.cell? ⟨(w.heap.size + 1), 0, none⟩ = some (.int .i64 0) := blk_at B2.out 0 rfl
    have g0 : wr.frozen? ⟨(w.heap.size + 1), 0, none⟩ = false := blk_frozen B2.out 0
    have d1 : wr.cell? ⟨(w.heap.size + 1), 1, none⟩ = some (.slice none 0 0) := blk_at B2.out 1 rfl
    have g1 : wr.frozen? ⟨(w.heap.size + 1), 1, none⟩ = false := blk_frozen B2.out 1
    by_cases hlt : k < n
    · obtain ⟨ad, A1, c1, rfl, e0, e1, hl1, hC1⟩ := at_T104 HC.out (k : Int) (by omega) (by rw [← Hn.out]; omega)
      have hmem : rd_T104 x.f1 (k : Int) ∈ x.f1 := getD_mem _ _ _ (by rw [Int.toNat_natCast, ← Hn.out]; exact hlt)
      have htk : x.f1.take (k + 1) = x.f1.take k ++ [rd_T104 x.f1 (k : Int)] := take_getD _ _ _ (by rw [← Hn.out]; exact hlt)
      generalize rd_T104 x.f1 (k : Int) = y at *
      have Htk := Lib.hid htk
      rw [Int.toNat_natCast] at e0 e1
      have Hadd : Hid ((ad.add (k * 2)).block < w.heap.size) := World.block_lt_of_cell? w _ e0
      have Hy0 := Lib.hid ((HB.out.cell (World.block_lt_of_cell? w _ e0)).trans e0)
      have Hy1 := Lib.hid ((HB.out.cell (World.block_lt_of_cell? w _ e1)).trans e1)
      clear e0 e1
      have hy0 := Hy0.out
      have hy1 := Hy1.out
      have hn64 : n ≤ 100000 := by
        have h1 := partsC_len x.f1
        have h2 := Hp.out
        have h3 := Hn.out
        omega
      have Hsz := Lib.hid (show w.heap.size + 2 ≤ wr.heap.size from blk_lt B2.out)
      obtain ⟨m, hm⟩ : ∃ m, m = y.f1.length := ⟨_, rfl⟩
      have Hm := Lib.hid hm
      rw [← hm] at hy1 hl1
      have HC1 := Lib.hid hC1
      have Hpy := Lib.hid (Nat.le_trans (partsC_mem hmem) Hp.out)
      clear hmem htk hC1 hl1 hm
      obtain ⟨wo, rfl⟩ : ∃ wo : World, wo = wr := ⟨_, rfl⟩
      go_wp2
      go_loopw [6] (fun v6 wi => ∃ j : Nat, j ≤ m ∧ v6 = .int .i64 j ∧ ∃ v, Hid (wi.heap[wo.heap.size]? = some (.cells #[.string y.f0, v] 104 (0, 0))) ∧ Hid (Kd.R k42 42 wi (wo.heap.size + 1) (fun _ => True) v (y.f1.take j)) ∧ Hid (Below wo.heap.size wo wi)) (fun v6 _ => m - (intOf v6).toNat)
      case atStart => exact ⟨0, Nat.zero_le _, rfl, _, blk_new _ _, Kd.R_nil _ _ _ _ _, (Below.refl _ _).alloc (Nat.le_refl _) _⟩
      case round =>
        obtain ⟨j, hj, rfl, v, Bg, HOi, HBi⟩ := hrel
        have hjl0 : (y.f1.take j).length = j := by rw [List.length_take, ← Hm.out]; omega
        obtain ⟨Ai, ci, hv⟩ := Kd.R_slice HOi.out
        rw [hjl0] at hv
        subst hv
        clear hjl0
        have Hszi := Lib.hid (show wo.heap.size + 1 ≤ wr.heap.size from blk_lt Bg.out)
        have h1 : wr.cell? ⟨w.heap.size, 1, none⟩ = some (.slice (some ad) n c) := pw_cell_below HBi.out (blk_at B1.out 1 rfl)
        have h2 : wr.cell? ⟨(ad.add (k * 2)).block, (ad.add (k * 2)).off + 1, none⟩ = some (.slice A1 m c1) := pw_cell_below HBi.out hy1
        by_cases hlj : j < m
        · have h0 : wr.cell? ⟨wo.heap.size, 1, none⟩ = some (.slice Ai j ci) := blk_at Bg.out 1 rfl
          obtain ⟨ai, A3, c3, rfl, e0, e1, e2, e3, hl3, hC3⟩ := at_T42 HC1.out (j : Int) (by omega) (by rw [← Hm.out]; omega)
          have hmem : rd_T42 y.f1 (j : Int) ∈ y.f1 := getD_mem _ _ _ (by rw [Int.toNat_natCast, ← Hm.out]; exact hlj)
          have htk : y.f1.take (j + 1) = y.f1.take j ++ [rd_T42 y.f1 (j : Int)] := take_getD _ _ _ (by rw [← Hm.out]; exact hlj)
          generalize rd_T42 y.f1 (j : Int) = z at *
          have Htk2 := Lib.hid htk
          rw [Int.toNat_natCast] at e0 e1 e2 e3
          have Haj : Hid ((ai.add (j * 4)).block < w.heap.size) := World.block_lt_of_cell? w _ e0
          have h3 : wr.cell? (ai.add (j * 4)) = some (.int .i64 z.f0) := pw_cell_below HBi.out (pw_cell_below HB.out e0)
          have h4 : wr.cell? ⟨(ai.add (j * 4)).block, (ai.add (j * 4)).off + 1, none⟩ = some (.int .i64 z.f1) := pw_cell_below HBi.out (pw_cell_below HB.out e1)
          have h5 : wr.cell? ⟨(ai.add (j * 4)).block, (ai.add (j * 4)).off + 2, none⟩ = some (.string z.f2) := pw_cell_below HBi.out (pw_cell_below HB.out e2)
          have h6 : wr.cell? ⟨(ai.add (j * 4)).block, (ai.add (j * 4)).off + 3, none⟩ = some (.slice A3 z.f3.length c3) := pw_cell_below HBi.out (pw_cell_below HB.out e3)
          have HZ : Hid (∀ W : World, Below wo.heap.size wo W → Calls Try.prog 69 #[.agg #[.int .i64 z.f0, .int .i64 z.f1, .string z.f2, .slice A3 z.f3.length c3]] W fun e w' => ∃ v, e = .returned (.agg #[.int .i64 z.f0, .int .i64 z.f1, .string z.f2, v]) ∧ Hid (Kd.R k42 42 w' W.heap.size (fun _ => True) v z.f3) ∧ Hid (Below W.heap.size W w')) := fun W hW => copyValue69 _ z (Nat.le_refl _) A3 c3 W (Kd.C_below (Kd.C_below hC3 HB.out) hW) hl3 (Nat.le_trans (partsV_mem hmem) Hpy.out)
          have hm64 : Hid (j + 1 ≤ 100000) := by
            have h1 := partsV_len y.f1
            have h2 := Hpy.out
            have h3 := Hm.out
            show _ ≤ _
            omega
          have hjl : Hid ((y.f1.take j ++ [z]).length = j + 1) := by
            show _ = _
            rw [List.length_append, List.length_take, ← Hm.out, List.length_singleton]
            omega
          have hblk : Hid ((ad.add (k * 2)).block < wo.heap.size + 1 ∧ (ai.add (j * 4)).block < wo.heap.size + 1) := by
            have h1 := Hadd.out
            have h2 := Haj.out
            have h3 := Hsz.out
            exact ⟨by omega, by omega⟩
          have hm64m : m ≤ 100000 := by
            have h1 := partsV_len y.f1
            have h2 := Hpy.out
            have h3 := Hm.out
            omega
          clear hmem htk hC3 hl3 e0 e1 e2 e3
          go_wp2
          refine start_ (n := 16) (S := (fun w' => w'.cell? ⟨wo.heap.size, 1, none⟩ = some (.slice Ai j ci) ∧ w'.cell? ⟨w.heap.size, 1, none⟩ = some (.slice (some ad) n c) ∧ w'.cell? ⟨(ad.add (k * 2)).block, (ad.add (k * 2)).off + 1, none⟩ = some (.slice (some ai) m c1) ∧ w'.cell? (ai.add (j * 4)) = some (.int .i64 z.f0) ∧ w'.cell? ⟨(ai.add (j * 4)).block, (ai.add (j * 4)).off + 1, none⟩ = some (.int .i64 z.f1) ∧ w'.cell? ⟨(ai.add (j * 4)).block, (ai.add (j * 4)).off + 2, none⟩ = some (.string z.f2) ∧ w'.cell? ⟨(ai.add (j * 4)).block, (ai.add (j * 4)).off + 3, none⟩ = some (.slice A3 z.f3.length c3))) (ds := [15]) #[false, false, false, false, false, false, false, false, false, false, false, false, false, false, false, false] (by kernel_rfl) rfl rfl ⟨h0, h1, h2, h3, h4, h5, h6⟩ (fun hHeld => ?_)
          have hHeld0 := Lib.hid hHeld
          have HOw : Hid (Kd.R k42 42 wr.drew (wo.heap.size + 1) (fun _ => True) (.slice Ai j ci) (y.f1.take j)) := Kd.R_drew HOi.out
          have Bgw : Hid (wr.drew.heap[wo.heap.size]? = some (.cells #[.string y.f0, .slice Ai j ci] 104 (0, 0))) := Bg.out
          have hBo : Hid (Below wo.heap.size wo wr.drew) := HBi.out.drew
          have HszW : Hid (wo.heap.size + 1 ≤ wr.drew.heap.size) := Hszi.out
          generalize wr.drew = W at hHeld hHeld0 HOw Bgw hBo HszW ⊢
          refine pure_ (i := 0) (N := some 32) (v := ?_) (a' := ?_) #[true, false, false, false, false, false, false, false, false, false, false, false, false, false, false, false] rfl rfl (by kernel_rfl) (fun _ _ _ h => h) (Or.inl ⟨by rfl, ?_⟩) ?_ ?_
          rotate_left
          · intro w'
            go_simp
            with_reducible rfl
          rotate_left
          · simp only [Act.put, List.setIfInBounds_toArray, List.set_cons_zero, List.set_cons_succ]
            rfl
          refine take_ (i := 1) (N := some 33) (v := ?_) (a' := ?_) #[true, true, false, false, false, false, false, false, false, false, false, false, false, false, false, false] rfl rfl (by kernel_rfl) (fun _ _ _ h => h) (Or.inl ⟨by rfl, ?_⟩) hHeld ?_ ?_
          rotate_left
          · rintro w' ⟨s0, s1, s2, s3, s4, s5, s6⟩
            go_simp
            with_reducible rfl
          rotate_left
          · simp only [Act.put, List.setIfInBounds_toArray, List.set_cons_zero, List.set_cons_succ]
            rfl
          refine pure_ (i := 2) (N := some 34) (v := ?_) (a' := ?_) #[true, true, true, false, false, false, false, false, false, false, false, false, false, false, false, false] rfl rfl (by kernel_rfl) (fun _ _ _ h => h) (Or.inl ⟨by rfl, ?_⟩) ?_ ?_
          rotate_left
          · intro w'
            go_simp
            with_reducible rfl
          rotate_left
          · simp only [Act.put, List.setIfInBounds_toArray, List.set_cons_zero, List.set_cons_succ]
            rfl
          refine take_ (i := 3) (N := some 35) (v := ?_) (a' := ?_) #[true, true, true, true, false, false, false, false, false, false, false, false, false, false, false, false] rfl rfl (by kernel_rfl) (fun _ _ _ h => h) (Or.inl ⟨by rfl, ?_⟩) hHeld ?_ ?_
          rotate_left
          · rintro w' ⟨s0, s1, s2, s3, s4, s5, s6⟩
            go_simp
            with_reducible rfl
          rotate_left
          · simp only [Act.put, List.setIfInBounds_toArray, List.set_cons_zero, List.set_cons_succ]
            rfl
          refine pure_ (i := 4) (N := some 36) (v := ?_) (a' := ?_) #[true, true, true, true, true, false, false, false, false, false, false, false, false, false, false, false] rfl rfl (by kernel_rfl) (fun _ _ _ h => h) (Or.inl ⟨by rfl, ?_⟩) ?_ ?_
          rotate_left
          · intro w'
            go_simp
            with_reducible rfl
          rotate_left
          · simp only [Act.put, List.setIfInBounds_toArray, List.set_cons_zero, List.set_cons_succ]
            rfl
          refine pure_ (i := 5) (N := some 37) (v := ?_) (a' := ?_) #[true, true, true, true, true, true, false, false, false, false, false, false, false, false, false, false] rfl rfl (by kernel_rfl) (fun _ _ _ h => h) (Or.inl ⟨by rfl, ?_⟩) ?_ ?_
          rotate_left
          · intro w'
            go_simp
            with_reducible rfl
          rotate_left
          · simp only [Act.put, List.setIfInBounds_toArray, List.set_cons_zero, List.set_cons_succ]
            rfl
          refine pure_ (i := 6) (N := some 38) (v := ?_) (a' := ?_) #[true, true, true, true, true, true, true, false, false, false, false, false, false, false, false, false] rfl rfl (by kernel_rfl) (fun _ _ _ h => h) (Or.inl ⟨by rfl, ?_⟩) ?_ ?_
          rotate_left
          · intro w'
            go_simp
            with_reducible rfl
          rotate_left
          · simp only [Act.put, List.setIfInBounds_toArray, List.set_cons_zero, List.set_cons_succ]
            rfl
          refine take_ (i := 7) (N := some 39) (v := ?_) (a' := ?_) #[true, true, true, true, true, true, true, true, false, false, false, false, false, false, false, false] rfl rfl (by kernel_rfl) (fun _ _ _ h => h) (Or.inl ⟨by rfl, ?_⟩) hHeld ?_ ?_
          rotate_left
          · rintro w' ⟨s0, s1, s2, s3, s4, s5, s6⟩
            go_simp
            with_reducible rfl
          rotate_left
          · simp only [Act.put, List.setIfInBounds_toArray, List.set_cons_zero, List.set_cons_succ]
            rfl
          refine pure_ (i := 8) (N := some 40) (v := ?_) (a' := ?_) #[true, true, true, true, true, true, true, true, true, false, false, false, false, false, false, false] rfl rfl (by kernel_rfl) (fun _ _ _ h => h) (Or.inl ⟨by rfl, ?_⟩) ?_ ?_
          rotate_left
          · intro w'
            go_simp
            with_reducible rfl
          rotate_left
          · simp only [Act.put, List.setIfInBounds_toArray, List.set_cons_zero, List.set_cons_succ]
            rfl
          refine pure_ (i := 9) (N := some 41) (v := ?_) (a' := ?_) #[true, true, true, true, true, true, true, true, true, true, false, false, false, false, false, false] rfl rfl (by kernel_rfl) (fun _ _ _ h => h) (Or.inl ⟨by rfl, ?_⟩) ?_ ?_
          rotate_left
          · intro w'
            go_simp
            with_reducible rfl
          rotate_left
          · simp only [Act.put, List.setIfInBounds_toArray, List.set_cons_zero, List.set_cons_succ]
            rfl
          refine take_ (i := 10) (N := some 42) (v := ?_) (a' := ?_) #[true, true, true, true, true, true, true, true, true, true, true, false, false, false, false, false] rfl rfl (by kernel_rfl) (fun _ _ _ h => h) (Or.inl ⟨by rfl, ?_⟩) hHeld ?_ ?_
          rotate_left
          · rintro w' ⟨s0, s1, s2, s3, s4, s5, s6⟩
            go_simp
            with_reducible rfl
          rotate_left
          · simp only [Act.put, List.setIfInBounds_toArray, List.set_cons_zero, List.set_cons_succ]
            rfl
          refine one_ (i := 11) (N := some 43) #[true, true, true, true, true, true, true, true, true, true, true, true, false, false, false, false] rfl rfl (by kernel_rfl) (by decide) (fun K hK => ?_)
          refine goes_ Try.func69 (by kernel_rfl) rfl #[.agg #[.int .i64 z.f0, .int .i64 z.f1, .string z.f2, .slice A3 z.f3.length c3]] (by rfl) rfl rfl (by simp only [List.map_toArray, List.map_cons, List.map_nil]; rfl) ?_
          refine (HZ.out W hBo.out).mono ?_
          rintro e w1 ⟨v1, rfl, hv1, hb1⟩
          refine ⟨_, rfl, ?_⟩
          obtain ⟨Av, cv, rfl⟩ := Kd.R_slice hv1.out
          refine hK.out _ _ ⟨pw_cell_below hb1.out hHeld.1, pw_cell_below hb1.out hHeld.2.1, pw_cell_below hb1.out hHeld.2.2.1, pw_cell_below hb1.out hHeld.2.2.2.1, pw_cell_below hb1.out hHeld.2.2.2.2.1, pw_cell_below hb1.out hHeld.2.2.2.2.2.1, pw_cell_below hb1.out hHeld.2.2.2.2.2.2⟩ (fun hHeld => ?_)
          clear hK K
          refine norm_ (a' := ?_) ?_ ?_
          rotate_left
          · show Act.put _ (some 43) _ = _
            simp only [Act.put, List.setIfInBounds_toArray, List.set_cons_zero, List.set_cons_succ]
            rfl
          refine one_ (i := 12) (N := some 44) #[true, true, true, true, true, true, true, true, true, true, true, true, true, false, false, false] rfl rfl (by kernel_rfl) (by decide) (fun K hK => ?_)
          refine value_ (w1 := ?_) (v := ?_) (by rfl) rfl ?_ ?_
          rotate_left 2
          · go_simp
            constructor
            · rfl
            · rfl
          refine hK.out _ _ ⟨pw_cell_below ((Below.refl _ _).alloc (Nat.le_refl _) _) hHeld.1, pw_cell_below ((Below.refl _ _).alloc (Nat.le_refl _) _) hHeld.2.1, pw_cell_below ((Below.refl _ _).alloc (Nat.le_refl _) _) hHeld.2.2.1, pw_cell_below ((Below.refl _ _).alloc (Nat.le_refl _) _) hHeld.2.2.2.1, pw_cell_below ((Below.refl _ _).alloc (Nat.le_refl _) _) hHeld.2.2.2.2.1, pw_cell_below ((Below.refl _ _).alloc (Nat.le_refl _) _) hHeld.2.2.2.2.2.1, pw_cell_below ((Below.refl _ _).alloc (Nat.le_refl _) _) hHeld.2.2.2.2.2.2⟩ (fun hHeld => ?_)
          clear hK K
          refine norm_ (a' := ?_) ?_ ?_
          rotate_left
          · show Act.put _ (some 44) _ = _
            simp only [Act.put, List.setIfInBounds_toArray, List.set_cons_zero, List.set_cons_succ]
            rfl
          refine one_ (i := 13) (N := some 45) #[true, true, true, true, true, true, true, true, true, true, true, true, true, true, false, false] rfl rfl (by kernel_rfl) (by decide) (fun K hK => ?_)
          refine Kd.R_append_step k42 (w0 := W) (wo.heap.size + 1) (by rfl) (.tmp 33) (.tmp 44) 40 42 (.agg #[.int .i64 0, .int .i64 0, .string ⟨#[]⟩, .slice none 0 0]) 56 rfl Try.underlying40 info42 rfl (by decide) (by decide) (.slice Ai j ci) (y.f1.take j) z _ (fun _ => True) (fun k_ => True ∧ some k_ ≠ (Value.slice Ai j ci).ownBlock) rfl rfl ?hp (fun _ hk => hk) (fun _ _ => trivial) ?hO ?hB ?hS ?hl ?_
          case hp => exact k42_mkM _ _ _ z (Kd.R_lower (Kd.R_new' hv1.out (Kd.R_lt HOw.out)) HszW.out)
          case hO => exact Kd.R_below HOw.out hb1.out
          case hB => exact hb1.out.mono HszW.out
          case hS => exact Nat.le_trans HszW.out hb1.out.size
          case hl => rw [List.length_take]; have := hm64.out; omega
          intro v2 w2 HO2 HB2 hg2 hat2
          have HO2' := Lib.hid HO2
          have HB2' := Lib.hid HB2
          clear HO2 HB2 hg2 hat2
          have Bg2 := Lib.hid ((HB2'.out.block _ (Nat.lt_succ_self _)).trans Bgw.out)
          refine hK.out _ _ ?_ (fun hHeld => ?_)
          · have hx : ∀ a v, W.cell? a = some v → a.block < wo.heap.size + 1 → w2.cell? a = some v := fun a v h hlt => (World.cell?_of_block (HB2'.out.block _ hlt)).trans h
            exact ⟨hx _ _ hHeld0.out.1 (by simp), hx _ _ hHeld0.out.2.1 (by have := Hsz.out; simp only []; omega), hx _ _ hHeld0.out.2.2.1 (by have := hblk.out.1; simp only []; omega), hx _ _ hHeld0.out.2.2.2.1 (by have := hblk.out.2; omega), hx _ _ hHeld0.out.2.2.2.2.1 (by have := hblk.out.2; simp only []; omega), hx _ _ hHeld0.out.2.2.2.2.2.1 (by have := hblk.out.2; simp only []; omega), hx _ _ hHeld0.out.2.2.2.2.2.2 (by have := hblk.out.2; simp only []; omega)⟩
          clear hK K
          obtain ⟨A2, cp2, e2⟩ := Kd.R_slice HO2'.out
          rw [hjl.out] at e2
          subst e2
          refine norm_ (a' := ?_) ?_ ?_
          rotate_left
          · show Act.put _ (some 45) _ = _
            simp only [Act.put, List.setIfInBounds_toArray, List.set_cons_zero, List.set_cons_succ]
            rfl
          refine pure_ (i := 14) (N := some 46) (v := ?_) (a' := ?_) #[true, true, true, true, true, true, true, true, true, true, true, true, true, true, true, false] rfl rfl (by kernel_rfl) (fun _ _ _ h => h) (Or.inl ⟨by rfl, ?_⟩) ?_ ?_
          rotate_left
          · intro w'
            go_simp
            with_reducible rfl
          rotate_left
          · simp only [Act.put, List.setIfInBounds_toArray, List.set_cons_zero, List.set_cons_succ]
            rfl
          refine last_ (i := 15) (N := none) #[true, true, true, true, true, true, true, true, true, true, true, true, true, true, true, true] rfl rfl (by kernel_rfl) (by decide) (fun K hK => ?_)
          have hs := hHeld.1
          have hf : w2.frozen? ⟨wo.heap.size, 1, none⟩ = false := blk_frozen Bg2.out 1
          refine skip_ (w1 := ?_) (by rfl) rfl ?_ ?_
          rotate_left
          · go_simp
            rfl
          refine hK.out _ _ ?_
          clear hK K hs hf
          refine done_ (by kernel_rfl) ?_
          go_wp2
          go_roundw
          case rel =>
            refine ⟨j + 1, by omega, by go_num, .slice A2 (j + 1) cp2, ?_, ?_, ?_⟩
            · exact blk_put Bg2.out 1 _ rfl
            · rw [Htk2.out]
              exact R_low HO2'.out (by simp) _
            · refine Lib.hid ?_
              refine Below.setCell ?_ (by simp) _
              exact hBo.out.trans (HB2'.out.mono (by omega))
          case measure => simp [intOf]; omega
        · obtain rfl : j = m := by omega
          rw [List.take_of_length_le (by rw [Hm.out]; exact Nat.le_refl _)] at HOi
          have b0 : wr.cell? ⟨wo.heap.size, 0, none⟩ = some (.string y.f0) := blk_at Bg.out 0 rfl
          have b1 : wr.cell? ⟨wo.heap.size, 1, none⟩ = some (.slice Ai j ci) := blk_at Bg.out 1 rfl
          go_wp2_with (first
            | (at_builtin; refine Kd.R_append k104 (w0 := wr) (w.heap.size + 2) rfl (.tmp 47) (.tmp 49) 32 104 (.agg #[.string ⟨#[]⟩, .slice none 0 0]) 40 rfl Try.underlying32 info104 rfl (by decide) (by decide) (.slice Ao k co) (x.f1.take k) y _ (fun _ => True) (fun k_ => True ∧ some k_ ≠ (Value.slice Ao k co).ownBlock) rfl rfl ?hp (fun _ hk => hk) (fun _ _ => trivial) ?hO (Below.refl _ _) ?hS ?hl ?_
               case hp => exact k104_mkM _ _ _ y (Kd.R_mono (Kd.R_lower (Kd.R_bound HOi.out) (Nat.le_trans Hsz.out (Nat.le_succ _))) (fun i hi => ⟨trivial, fun e => by have := Kd.R_lt HO.out i e.symm; have := hi.2.1; omega⟩))
               case hO => exact Kd.R_below HO.out HBi.out
               case hS => exact Nat.le_trans Hsz.out HBi.out.size
               case hl => rw [List.length_take]; have := hn64; omega
               intro v2 w2 HO2 HB2 hg2 hat2
               have HO2' := Lib.hid HO2
               have HB2' := Lib.hid HB2
               clear HO2 HB2 hg2 hat2))
          go_roundw
          case rel =>
            refine ⟨k + 1, by omega, by go_num, ?_, ?_, ?_, ?_⟩
            · rw [Htk.out]; exact HO2'.out
            · exact (HB.out.trans (HBi.out.mono (by have := Hsz.out; omega))).trans (HB2'.out.mono (by omega))
            · exact (HB2'.out.block _ (by omega)).trans (blk_below B1.out HBi.out)
            · exact (HB2'.out.block _ (by omega)).trans (blk_below B2.out HBi.out)
          case measure => simp [intOf]; omega
    · go_wp2
      obtain rfl : k = n := by omega
      rw [List.take_of_length_le (by rw [Hn.out]; exact Nat.le_refl _)] at HO
      refine bodyPost_ret (results_cell_row rfl _ _ (w.heap.size + 1) 34 #[.int .i64 x.f0, .slice Ao k co] (0, 0) _ rfl ?_ Try.underlying34 rfl (by kernel_rfl)) rfl ⟨_, rfl, ?_, ?_⟩
      · exact blk_put (blk_put (blk_far B2.out (by simp) _) 0 _ rfl) 1 _ rfl
      · refine Lib.hid ?_
        refine Kd.R_lower (base := w.heap.size + 2) ?_ (Nat.le_add_right _ _)
        iterate 3 refine R_low ?_ (by simp only []; omega) _
        exact HO.out
      · refine Lib.hid ?_
        iterate 3 refine Below.setCell ?_ (by simp) _
        exact HB.out

end Go.Proofs.Ytomfknblehkocaa.C
