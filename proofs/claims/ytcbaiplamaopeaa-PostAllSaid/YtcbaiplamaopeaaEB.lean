/- The document's copies: State, Part. -/
import Derived.Test.YtcbaiplamaopeaaEA
import Derived.Test.YtcbaiplamaopeaaPG
namespace Go.Proofs.Ytcbaiplamaopeaa.PPostShots
open Go.RowKit Go.Conc Go.Proofs.YtcbaiplamaopeaaW.PrintWords Go.Proofs.YtcbaiplamaopeaaW.PrintLast Go.Proofs.Ytcbaiplamaopeaa.PPost
set_option linter.unusedVariables false
set_option linter.unusedSimpArgs false

set_option maxRecDepth 100000 in
set_option maxHeartbeats 4000000 in
theorem state52 (x : S36) (A : Option Addr) (c : Nat) (w : World) (hC : Kd.C k103 w A x.f1.length x.f1) (hp : partsC x.f1 ≤ 100000) :
    Calls Try.prog 52 #[.agg #[.int .i64 x.f0, .slice A x.f1.length c]] w fun e w' => ∃ v, e = .returned (.agg #[.int .i64 x.f0, v]) ∧ Hid (Kd.R k103 103 w' w.heap.size (fun _ => True) v x.f1) ∧ Hid (Below w.heap.size w w') := by
  obtain ⟨m, hm⟩ : ∃ m, m = x.f1.length := ⟨_, rfl⟩
  have hm6 : m ≤ 100000 := by have := partsC_len x.f1; omega
  have HC := Lib.hid hC
  have Hpp := Lib.hid hp
  have Hm := Lib.hid hm
  rw [← hm]
  clear hC hp hm
  go_enter Try.func52, Try.ntmps52
  go_wp2_with (fail)
  go_loopw [4] (fun v4 wr => ∃ k Ai ci, k ≤ m ∧ v4 = .int .i64 (k : Nat) ∧ Hid (wr.heap[w.heap.size + 2]? = some (.cells #[.int .i64 x.f0, .slice Ai k ci] 36 (0, 0))) ∧ Hid (Kd.R k103 103 wr (w.heap.size + 3) (fun _ => True) (.slice Ai k ci) (x.f1.take k)) ∧ Hid (wr.heap[w.heap.size]? = some (.cells #[.int .i64 x.f0, .slice A m c] 36 (0, 0))) ∧ Hid (wr.heap[w.heap.size + 1]? = some (.cells #[.int .i64 0, .slice none 0 0] 36 (0, 0))) ∧ Hid (Below w.heap.size w wr)) (fun v4 _ => m - (intOf v4).toNat)
  case atStart =>
    have h1 := blk_new w (.cells #[.int .i64 x.f0, .slice A m c] 36)
    have h2 := blk_new (w.alloc (.cells #[.int .i64 x.f0, .slice A m c] 36)) (.cells #[.int .i64 0, .slice none 0 0] 36)
    simp only [World.size_alloc] at h2
    have h3 := blk_new ((w.alloc (.cells #[.int .i64 x.f0, .slice A m c] 36)).alloc (.cells #[.int .i64 0, .slice none 0 0] 36)) (.cells #[.int .i64 x.f0, .slice none 0 0] 36)
    simp only [World.size_alloc] at h3
    exact ⟨0, none, 0, Nat.zero_le _, rfl, Lib.hid h3, Lib.hid (Kd.R_nil _ _ _ _ _), Lib.hid (blk_alloc (blk_alloc h1 _) _), Lib.hid (blk_alloc h2 _), Lib.hid ((((Below.refl _ _).alloc (Nat.le_refl _) _).alloc (by simp) _).alloc (by simp; omega) _)⟩
  case round =>
    obtain ⟨k, Ai, ci, hk, rfl, HGa, HOa, HDa, HEa, HBa⟩ := hrel
    have a0 : wr.cell? ⟨w.heap.size, 0, none⟩ = some (.int .i64 x.f0) := blk_at HDa.out 0 rfl
    have a1 : wr.cell? ⟨w.heap.size, 1, none⟩ = some (.slice A m c) := blk_at HDa.out 1 rfl
    by_cases hlt : k < m
    · obtain ⟨ad, Aq, cq, rfl, e0, e1, hlq, hCq⟩ := at_T103 HC.out (k : Int) (by omega) (by rw [← Hm.out]; omega)
      have hmem : rd_T103 x.f1 (k : Int) ∈ x.f1 := getD_mem _ _ _ (by rw [Int.toNat_natCast, ← Hm.out]; exact hlt)
      have htk : x.f1.take (k + 1) = x.f1.take k ++ [rd_T103 x.f1 (k : Int)] := take_getD _ _ _ (by rw [← Hm.out]; exact hlt)
      generalize rd_T103 x.f1 (k : Int) = y at *
      have Htk := Lib.hid htk
      have Hlk : Hid ((x.f1.take (k + 1)).length = k + 1) := Lib.hid (by rw [List.length_take, ← Hm.out]; omega)
      have Hlm : Hid (x.f1.length ≤ 100000) := Lib.hid (by have := Hm.out; omega)
      have Hs3 : Hid (w.heap.size + 3 ≤ wr.heap.size) := Lib.hid (blk_lt HGa.out)
      rw [Int.toNat_natCast] at e0 e1
      have Hk2 : Hid ((ad.add (k * 2)).block < w.heap.size) := Lib.hid (World.block_lt_of_cell? w _ e0)
      replace e0 := pw_cell_below HBa.out e0
      replace e1 := pw_cell_below HBa.out e1
      have HE0 := Lib.hid e0
      have HZ := Lib.hid (values59 y.f1 Aq cq wr (Kd.C_below hCq HBa.out) (by have h1 := partsC_mem hmem; have h2 := Hpp.out; omega))
      clear htk hmem hCq hlq e0
      go_upto_region 6 with (go_at_call 59; refine HZ.out.mono ?_; rintro e w1 ⟨v, rfl, hv, hb⟩; obtain ⟨Aw, cw, rfl⟩ := Kd.R_slice hv.out)
      clear a0 a1 e1
      have HGc := Lib.hid (blk_below HGa.out hb.out)
      have HDc := Lib.hid (blk_below HDa.out hb.out)
      have HEc := Lib.hid (blk_below HEa.out hb.out)
      have HKc := Lib.hid (pw_cell_below hb.out HE0.out)
      have HOc := Lib.hid (Kd.R_below HOa.out hb.out)
      have HNc := Lib.hid (Kd.R_lower (Kd.R_new' hv.out (Kd.R_lt HOa.out)) Hs3.out)
      have HTc : Hid (Below (w.heap.size + 3) wr w1) := Lib.hid (hb.out.mono Hs3.out)
      have Hsc : Hid (w.heap.size + 3 ≤ w1.heap.size) := Lib.hid (Nat.le_trans Hs3.out hb.out.size)
      clear hv hb
      refine start_ (n := 14) (S := (fun w' => w'.cell? ⟨w.heap.size + 2, 1, none⟩ = some (.slice Ai k ci) ∧ w'.cell? ⟨w.heap.size, 1, none⟩ = some (.slice (some ad) m c) ∧ w'.cell? (ad.add (k * 2)) = some (.string y.f0))) (ds := [13]) #[false, false, false, false, false, false, false, false, false, false, false, false, false, false] (by kernel_rfl) rfl rfl ⟨blk_at HGc.out 1 rfl, blk_at HDc.out 1 rfl, (show w1.drew.cell? _ = _ from HKc.out)⟩ (fun hHeld => ?_)
      have HG1 : Hid (w1.drew.heap[w.heap.size + 2]? = some (.cells #[.int .i64 x.f0, .slice Ai k ci] 36 (0, 0))) := HGc
      have HD1 : Hid (w1.drew.heap[w.heap.size]? = some (.cells #[.int .i64 x.f0, .slice (some ad) m c] 36 (0, 0))) := HDc
      have HE1 : Hid (w1.drew.heap[w.heap.size + 1]? = some (.cells #[.int .i64 0, .slice none 0 0] 36 (0, 0))) := HEc
      have HO1 : Hid (Kd.R k103 103 w1.drew (w.heap.size + 3) (fun _ => True) (.slice Ai k ci) (x.f1.take k)) := Lib.hid (Kd.R_drew HOc.out)
      have HT1 : Hid (Below (w.heap.size + 3) wr w1.drew) := Lib.hid HTc.out.drew
      have HNV : Hid (Kd.R k81 81 w1.drew (w.heap.size + 3) (fun k_ => True ∧ some k_ ≠ (Value.slice Ai k ci).ownBlock) (.slice Aw y.f1.length cw) y.f1) := Lib.hid (Kd.R_drew HNc.out)
      have Hs1 : Hid (w.heap.size + 3 ≤ w1.drew.heap.size) := Hsc
      clear HGc HDc HEc HOc HTc HNc Hsc
      generalize w1.drew = w1 at *
      refine pure_ (i := 0) (N := some 23) (v := ?_) (a' := ?_) #[true, false, false, false, false, false, false, false, false, false, false, false, false, false] rfl rfl (by kernel_rfl) (fun _ _ _ h => h) (Or.inl ⟨by rfl, ?_⟩) ?_ ?_
      rotate_left
      · intro w'
        go_simp
        with_reducible rfl
      rotate_left
      · simp only [Act.put, List.setIfInBounds_toArray, List.set_cons_zero, List.set_cons_succ]
        rfl
      refine take_ (i := 1) (N := some 24) (v := ?_) (a' := ?_) #[true, true, false, false, false, false, false, false, false, false, false, false, false, false] rfl rfl (by kernel_rfl) (fun _ _ _ h => h) (Or.inl ⟨by rfl, ?_⟩) hHeld ?_ ?_
      rotate_left
      · rintro w' ⟨s0, s1, s2⟩
        go_simp
        with_reducible rfl
      rotate_left
      · simp only [Act.put, List.setIfInBounds_toArray, List.set_cons_zero, List.set_cons_succ]
        rfl
      refine pure_ (i := 2) (N := some 25) (v := ?_) (a' := ?_) #[true, true, true, false, false, false, false, false, false, false, false, false, false, false] rfl rfl (by kernel_rfl) (fun _ _ _ h => h) (Or.inl ⟨by rfl, ?_⟩) ?_ ?_
      rotate_left
      · intro w'
        go_simp
        with_reducible rfl
      rotate_left
      · simp only [Act.put, List.setIfInBounds_toArray, List.set_cons_zero, List.set_cons_succ]
        rfl
      refine take_ (i := 3) (N := some 26) (v := ?_) (a' := ?_) #[true, true, true, true, false, false, false, false, false, false, false, false, false, false] rfl rfl (by kernel_rfl) (fun _ _ _ h => h) (Or.inl ⟨by rfl, ?_⟩) hHeld ?_ ?_
      rotate_left
      · rintro w' ⟨s0, s1, s2⟩
        go_simp
        with_reducible rfl
      rotate_left
      · simp only [Act.put, List.setIfInBounds_toArray, List.set_cons_zero, List.set_cons_succ]
        rfl
      refine pure_ (i := 4) (N := some 27) (v := ?_) (a' := ?_) #[true, true, true, true, true, false, false, false, false, false, false, false, false, false] rfl rfl (by kernel_rfl) (fun _ _ _ h => h) (Or.inl ⟨by rfl, ?_⟩) ?_ ?_
      rotate_left
      · intro w'
        go_simp
        with_reducible rfl
      rotate_left
      · simp only [Act.put, List.setIfInBounds_toArray, List.set_cons_zero, List.set_cons_succ]
        rfl
      refine pure_ (i := 5) (N := some 28) (v := ?_) (a' := ?_) #[true, true, true, true, true, true, false, false, false, false, false, false, false, false] rfl rfl (by kernel_rfl) (fun _ _ _ h => h) (Or.inl ⟨by rfl, ?_⟩) ?_ ?_
      rotate_left
      · intro w'
        go_simp
        with_reducible rfl
      rotate_left
      · simp only [Act.put, List.setIfInBounds_toArray, List.set_cons_zero, List.set_cons_succ]
        rfl
      refine pure_ (i := 6) (N := some 29) (v := ?_) (a' := ?_) #[true, true, true, true, true, true, true, false, false, false, false, false, false, false] rfl rfl (by kernel_rfl) (fun _ _ _ h => h) (Or.inl ⟨by rfl, ?_⟩) ?_ ?_
      rotate_left
      · intro w'
        go_simp
        with_reducible rfl
      rotate_left
      · simp only [Act.put, List.setIfInBounds_toArray, List.set_cons_zero, List.set_cons_succ]
        rfl
      refine take_ (i := 7) (N := some 30) (v := ?_) (a' := ?_) #[true, true, true, true, true, true, true, true, false, false, false, false, false, false] rfl rfl (by kernel_rfl) (fun _ _ _ h => h) (Or.inl ⟨by rfl, ?_⟩) hHeld ?_ ?_
      rotate_left
      · rintro w' ⟨s0, s1, s2⟩
        go_simp
        with_reducible rfl
      rotate_left
      · simp only [Act.put, List.setIfInBounds_toArray, List.set_cons_zero, List.set_cons_succ]
        rfl
      refine pure_ (i := 8) (N := some 31) (v := ?_) (a' := ?_) #[true, true, true, true, true, true, true, true, true, false, false, false, false, false] rfl rfl (by kernel_rfl) (fun _ _ _ h => h) (Or.inl ⟨by rfl, ?_⟩) ?_ ?_
      rotate_left
      · intro w'
        go_simp
        with_reducible rfl
      rotate_left
      · simp only [Act.put, List.setIfInBounds_toArray, List.set_cons_zero, List.set_cons_succ]
        rfl
      refine pure_ (i := 9) (N := some 32) (v := ?_) (a' := ?_) #[true, true, true, true, true, true, true, true, true, true, false, false, false, false] rfl rfl (by kernel_rfl) (fun _ _ _ h => h) (Or.inl ⟨by rfl, ?_⟩) ?_ ?_
      rotate_left
      · intro w'
        go_simp
        with_reducible rfl
      rotate_left
      · simp only [Act.put, List.setIfInBounds_toArray, List.set_cons_zero, List.set_cons_succ]
        rfl
      refine one_ (i := 10) (N := some 33) #[true, true, true, true, true, true, true, true, true, true, true, false, false, false] rfl rfl (by kernel_rfl) (by decide) (fun K hK => ?_)
      refine value_ (w1 := ?_) (v := ?_) (by rfl) rfl ?_ ?_
      rotate_left 2
      · go_simp
        constructor
        · rfl
        · rfl
      have hal : Below w1.heap.size w1 (w1.alloc (.cells #[.string y.f0, .slice Aw y.f1.length cw] 103)) := (Below.refl _ _).alloc (Nat.le_refl _) _
      refine hK.out _ _ ⟨pw_cell_below hal hHeld.1, pw_cell_below hal hHeld.2.1, pw_cell_below hal hHeld.2.2⟩ (fun hHeld => ?_)
      clear hK K hal
      refine norm_ (a' := ?_) ?_ ?_
      rotate_left
      · show Act.put _ (some 33) _ = _
        simp only [Act.put, List.setIfInBounds_toArray, List.set_cons_zero, List.set_cons_succ]
        rfl
      refine one_ (i := 11) (N := some 34) #[true, true, true, true, true, true, true, true, true, true, true, true, false, false] rfl rfl (by kernel_rfl) (by decide) (fun K hK => ?_)
      refine Kd.R_append_step k103 (w0 := wr) (W := w1) (w.heap.size + 3) (by rfl) (.tmp 24) (.tmp 33) 34 103 (.agg #[.string ⟨#[]⟩, .slice none 0 0]) 40 rfl Try.underlying34 info103 rfl (show 0 < 2 by decide) (by decide) (.slice Ai k ci) (x.f1.take k) y _ (fun _ => True) (fun k_ => True ∧ some k_ ≠ (Value.slice Ai k ci).ownBlock) rfl rfl ?hp (fun _ hk => hk) (fun _ _ => trivial) HO1.out HT1.out ?hS ?hl ?_
      case hp => have HNV := HNV.out; exact k103_mkM _ _ _ y HNV
      case hS => exact Hs1.out
      case hl => rw [List.length_take]; have := Hlm.out; omega
      intro v2 w2 HO2 HB2 hg2 hat2
      rw [← Htk.out] at HO2
      obtain ⟨A2', cp2, e2⟩ := Kd.R_slice HO2
      rw [Hlk.out] at e2
      subst e2
      have HO2 := Lib.hid HO2
      have HB2 := Lib.hid HB2
      have h3' := Hs3.out
      have HG2 := Lib.hid ((HB2.out.block _ (by omega)).trans HGa.out)
      have HD2 := Lib.hid ((HB2.out.block _ (by omega)).trans HDa.out)
      have HE2 := Lib.hid ((HB2.out.block _ (by omega)).trans HEa.out)
      refine hK.out _ _ ⟨blk_at HG2.out 1 rfl, blk_at HD2.out 1 rfl, (World.cell?_of_block (HB2.out.block _ (by have := Hk2.out; omega))).trans HE0.out⟩ (fun hHeld => ?_)
      clear hK K hg2 hat2 HG1 HO1 HD1 HE1 HT1
      refine norm_ (a' := ?_) ?_ ?_
      rotate_left
      · show Act.put _ (some 34) _ = _
        simp only [Act.put, List.setIfInBounds_toArray, List.set_cons_zero, List.set_cons_succ]
        rfl
      refine pure_ (i := 12) (N := some 35) (v := ?_) (a' := ?_) #[true, true, true, true, true, true, true, true, true, true, true, true, true, false] rfl rfl (by kernel_rfl) (fun _ _ _ h => h) (Or.inl ⟨by rfl, ?_⟩) ?_ ?_
      rotate_left
      · intro w'
        go_simp
        with_reducible rfl
      rotate_left
      · simp only [Act.put, List.setIfInBounds_toArray, List.set_cons_zero, List.set_cons_succ]
        rfl
      refine last_ (i := 13) (N := none) #[true, true, true, true, true, true, true, true, true, true, true, true, true, true] rfl rfl (by kernel_rfl) (by decide) (fun K hK => ?_)
      have y0 : w2.cell? ⟨w.heap.size + 2, 1, none⟩ = some (.slice Ai k ci) := blk_at HG2.out 1 rfl
      have z0 : w2.frozen? ⟨w.heap.size + 2, 1, none⟩ = false := blk_frozen HG2.out 1
      refine skip_ (w1 := w2.setCell ⟨w.heap.size + 2, 1, none⟩ (.slice A2' (k + 1) cp2)) (by rfl) rfl (by go_simp) ?_
      have HG3 := Lib.hid (blk_put HG2.out 1 (.slice A2' (k + 1) cp2) rfl)
      have HO3 := Lib.hid (R_low HO2.out (p := ⟨w.heap.size + 2, 1, none⟩) (by simp only []; omega) (.slice A2' (k + 1) cp2))
      have HD3 := Lib.hid (blk_far HD2.out (p := ⟨w.heap.size + 2, 1, none⟩) (by simp) (.slice A2' (k + 1) cp2))
      have HE3 := Lib.hid (blk_far HE2.out (p := ⟨w.heap.size + 2, 1, none⟩) (by simp) (.slice A2' (k + 1) cp2))
      have HB3 := Lib.hid ((HBa.out.trans (HB2.out.mono (by omega))).setCell (p := ⟨w.heap.size + 2, 1, none⟩) (by simp) (.slice A2' (k + 1) cp2))
      refine hK.out _ _ ?_
      clear hK K y0 z0 HG2 HO2 HD2 HE2 HB2
      refine done_ (by kernel_rfl) ?_
      go_wp2_with (fail)
      go_roundw
      case rel => exact ⟨k + 1, A2', cp2, by omega, by go_num, HG3, HO3, HD3, HE3, HB3⟩
      case measure => simp [intOf]; omega
    · obtain rfl : k = m := by omega
      rw [List.take_of_length_le (by rw [Hm.out]; exact Nat.le_refl _)] at HOa
      have g0 : wr.cell? ⟨w.heap.size + 2, 0, none⟩ = some (.int .i64 x.f0) := blk_at HGa.out 0 rfl
      have g1 : wr.cell? ⟨w.heap.size + 2, 1, none⟩ = some (.slice Ai k ci) := blk_at HGa.out 1 rfl
      have y0 : wr.cell? ⟨w.heap.size + 1, 0, none⟩ = some (.int .i64 0) := blk_at HEa.out 0 rfl
      have z0 : wr.frozen? ⟨w.heap.size + 1, 0, none⟩ = false := blk_frozen HEa.out 0
      have y1 : wr.cell? ⟨w.heap.size + 1, 1, none⟩ = some (.slice none 0 0) := blk_at HEa.out 1 rfl
      have z1 : wr.frozen? ⟨w.heap.size + 1, 1, none⟩ = false := blk_frozen HEa.out 1
      go_wp2_with (fail)
      refine bodyPost_ret (results_cell_row rfl _ _ (w.heap.size + 1) 36 #[.int .i64 x.f0, .slice Ai k ci] (0, 0) _ rfl (blk_put (blk_put HEa.out 0 _ rfl) 1 _ rfl) Try.underlying36 rfl (by kernel_rfl)) rfl ⟨_, rfl, ?_, ?_⟩
      · refine Lib.hid (Kd.R_lower (base := w.heap.size + 3) ?_ (Nat.le_add_right _ _))
        iterate 2 refine R_low ?_ (by simp only []; omega) _
        exact HOa.out
      · refine Lib.hid ?_
        iterate 2 refine Below.setCell ?_ (by simp) _
        exact HBa.out
set_option maxRecDepth 100000 in
set_option maxHeartbeats 16000000 in
theorem part35 (x : S40) (A1 : Option Addr) (c1 : Nat) (A2 : Option Addr) (c2 : Nat) (A3 : Option Addr) (c3 : Nat) (w : World) (hC1 : Kd.C k103 w A1 x.f0.f1.length x.f0.f1) (hC2 : Kd.C (Kd.slice 83 k83) w A2 x.f1.length x.f1) (hC3 : Kd.C k83 w A3 x.f2.length x.f2) (hp : partsP x ≤ 100000) :
    Calls Try.prog 35 #[.agg #[.int .i64 x.f0.f0, .slice A1 x.f0.f1.length c1, .slice A2 x.f1.length c2, .slice A3 x.f2.length c3]] w fun e w' => ∃ v1 v2 v3, e = .returned (.agg #[.int .i64 x.f0.f0, v1, v2, v3]) ∧ Hid (Kd.R k103 103 w' w.heap.size (fun _ => True) v1 x.f0.f1) ∧ Hid (Kd.R (Kd.slice 83 k83) 38 w' w.heap.size (fun _ => True) v2 x.f1) ∧ Hid (Kd.R k83 83 w' w.heap.size (fun _ => True) v3 x.f2) ∧ Hid (Below w.heap.size w w') := by
  obtain ⟨m, hm⟩ : ∃ m, m = x.f0.f1.length := ⟨_, rfl⟩
  obtain ⟨n, hn⟩ : ∃ n, n = x.f1.length := ⟨_, rfl⟩
  obtain ⟨p, hpl⟩ : ∃ p, p = x.f2.length := ⟨_, rfl⟩
  have hn6 : n ≤ 100000 := by unfold partsP partsLs at hp; omega
  have HC2 := Lib.hid hC2
  have Hpp := Lib.hid hp
  have Hm := Lib.hid hm
  have Hn := Lib.hid hn
  have Hp := Lib.hid hpl
  have HPEND : Hid (∀ W : World, Below w.heap.size w W → Calls Try.prog 53 #[.slice A3 p c3] W fun e w' => ∃ v, e = .returned v ∧ Hid (Kd.R k83 83 w' W.heap.size (fun _ => True) v x.f2) ∧ Hid (Below W.heap.size W w')) := Lib.hid (fun W hW => by
    rw [hpl]
    exact records53 x.f2 A3 c3 W (Kd.C_below hC3 hW) (by unfold partsP at hp; omega))
  have HSTATE : Hid (∀ W : World, Below w.heap.size w W → Calls Try.prog 52 #[.agg #[.int .i64 x.f0.f0, .slice A1 m c1]] W fun e w' => ∃ v, e = .returned (.agg #[.int .i64 x.f0.f0, v]) ∧ Hid (Kd.R k103 103 w' W.heap.size (fun _ => True) v x.f0.f1) ∧ Hid (Below W.heap.size W w')) := Lib.hid (fun W hW => by
    rw [hm]
    exact state52 x.f0 A1 c1 W (Kd.C_below hC1 hW) (by unfold partsP at hp; omega))
  rw [← hm, ← hn, ← hpl]
  clear hC1 hC2 hC3 hp hm hn hpl
  have HD : Hid (((w.alloc (.cells #[.int .i64 x.f0.f0, .slice A1 m c1, .slice A2 n c2, .slice A3 p c3] 40)).alloc (.cells #[.int .i64 0, .slice none 0 0, .slice none 0 0, .slice none 0 0] 40)).heap[w.heap.size]? = some (.cells #[.int .i64 x.f0.f0, .slice A1 m c1, .slice A2 n c2, .slice A3 p c3] 40 (0, 0))) := Lib.hid (blk_alloc (blk_new w _) _)
  have HE : Hid (((w.alloc (.cells #[.int .i64 x.f0.f0, .slice A1 m c1, .slice A2 n c2, .slice A3 p c3] 40)).alloc (.cells #[.int .i64 0, .slice none 0 0, .slice none 0 0, .slice none 0 0] 40)).heap[w.heap.size + 1]? = some (.cells #[.int .i64 0, .slice none 0 0, .slice none 0 0, .slice none 0 0] 40 (0, 0))) := Lib.hid (by
    have := blk_new (w.alloc (.cells #[.int .i64 x.f0.f0, .slice A1 m c1, .slice A2 n c2, .slice A3 p c3] 40)) (.cells #[.int .i64 0, .slice none 0 0, .slice none 0 0, .slice none 0 0] 40)
    simp only [World.size_alloc] at this
    exact this)
  have HB : Hid (Below w.heap.size w ((w.alloc (.cells #[.int .i64 x.f0.f0, .slice A1 m c1, .slice A2 n c2, .slice A3 p c3] 40)).alloc (.cells #[.int .i64 0, .slice none 0 0, .slice none 0 0, .slice none 0 0] 40))) := Lib.hid (((Below.refl _ _).alloc (Nat.le_refl _) _).alloc (by simp) _)
  have Hsz : Hid (w.heap.size + 2 ≤ ((w.alloc (.cells #[.int .i64 x.f0.f0, .slice A1 m c1, .slice A2 n c2, .slice A3 p c3] 40)).alloc (.cells #[.int .i64 0, .slice none 0 0, .slice none 0 0, .slice none 0 0] 40)).heap.size) := Lib.hid (by simp)
  go_enter Try.func35, Try.ntmps35
  go_upto_region 1 with (fail)
  go_cut [3] (fun v3 wx => ∃ go As cs Av cv, v3 = .pointer (some ⟨go, 0, none⟩) ∧ Hid (wx.heap[go]? = some (.cells #[.int .i64 x.f0.f0, .slice As m cs, .slice none 0 0, .slice Av p cv] 40 (0, 0))) ∧ Hid (wx.heap[w.heap.size]? = some (.cells #[.int .i64 x.f0.f0, .slice A1 m c1, .slice A2 n c2, .slice A3 p c3] 40 (0, 0))) ∧ Hid (wx.heap[w.heap.size + 1]? = some (.cells #[.int .i64 0, .slice none 0 0, .slice none 0 0, .slice none 0 0] 40 (0, 0))) ∧ Hid (Kd.R k103 103 wx (w.heap.size + 2) (fun _ => True) (.slice As m cs) x.f0.f1) ∧ Hid (Kd.R k83 83 wx (w.heap.size + 2) (fun _ => True) (.slice Av p cv) x.f2) ∧ Hid (Below w.heap.size w wx) ∧ Hid (w.heap.size + 2 ≤ go))
  case first =>
    refine start_ (n := 9) (S := (fun w' => w'.cell? ⟨w.heap.size, 0, none⟩ = some (.int .i64 x.f0.f0) ∧ w'.cell? ⟨w.heap.size, 1, none⟩ = some (.slice A1 m c1) ∧ w'.cell? ⟨w.heap.size, 3, none⟩ = some (.slice A3 p c3))) (ds := [8]) #[false, false, false, false, false, false, false, false, false] (by kernel_rfl) rfl rfl ⟨blk_at HD.out 0 rfl, blk_at HD.out 1 rfl, blk_at HD.out 3 rfl⟩ (fun hHeld => ?_)
    have HD0 : Hid (((w.alloc (.cells #[.int .i64 x.f0.f0, .slice A1 m c1, .slice A2 n c2, .slice A3 p c3] 40)).alloc (.cells #[.int .i64 0, .slice none 0 0, .slice none 0 0, .slice none 0 0] 40)).drew.heap[w.heap.size]? = some (.cells #[.int .i64 x.f0.f0, .slice A1 m c1, .slice A2 n c2, .slice A3 p c3] 40 (0, 0))) := HD
    have HE0 : Hid (((w.alloc (.cells #[.int .i64 x.f0.f0, .slice A1 m c1, .slice A2 n c2, .slice A3 p c3] 40)).alloc (.cells #[.int .i64 0, .slice none 0 0, .slice none 0 0, .slice none 0 0] 40)).drew.heap[w.heap.size + 1]? = some (.cells #[.int .i64 0, .slice none 0 0, .slice none 0 0, .slice none 0 0] 40 (0, 0))) := HE
    have HB0 : Hid (Below w.heap.size w ((w.alloc (.cells #[.int .i64 x.f0.f0, .slice A1 m c1, .slice A2 n c2, .slice A3 p c3] 40)).alloc (.cells #[.int .i64 0, .slice none 0 0, .slice none 0 0, .slice none 0 0] 40)).drew) := Lib.hid HB.out.drew
    have Hz0 : Hid (w.heap.size + 2 ≤ ((w.alloc (.cells #[.int .i64 x.f0.f0, .slice A1 m c1, .slice A2 n c2, .slice A3 p c3] 40)).alloc (.cells #[.int .i64 0, .slice none 0 0, .slice none 0 0, .slice none 0 0] 40)).drew.heap.size) := Hsz
    clear HD HE HB Hsz
    generalize ((w.alloc (.cells #[.int .i64 x.f0.f0, .slice A1 m c1, .slice A2 n c2, .slice A3 p c3] 40)).alloc (.cells #[.int .i64 0, .slice none 0 0, .slice none 0 0, .slice none 0 0] 40)).drew = W0 at *
    refine pure_ (i := 0) (N := some 6) (v := ?_) (a' := ?_) #[true, false, false, false, false, false, false, false, false] rfl rfl (by kernel_rfl) (fun _ _ _ h => h) (Or.inl ⟨by rfl, ?_⟩) ?_ ?_
    rotate_left
    · intro w'
      go_simp
      with_reducible rfl
    rotate_left
    · simp only [Act.put, List.setIfInBounds_toArray, List.set_cons_zero, List.set_cons_succ]
      rfl
    refine take_ (i := 1) (N := some 7) (v := ?_) (a' := ?_) #[true, true, false, false, false, false, false, false, false] rfl rfl (by kernel_rfl) (fun _ _ _ h => h) (Or.inl ⟨by rfl, ?_⟩) hHeld ?_ ?_
    rotate_left
    · rintro w' ⟨s0, s1, s2⟩
      go_simp
      with_reducible rfl
    rotate_left
    · simp only [Act.put, List.setIfInBounds_toArray, List.set_cons_zero, List.set_cons_succ]
      rfl
    refine pure_ (i := 3) (N := some 9) (v := ?_) (a' := ?_) #[true, true, false, true, false, false, false, false, false] rfl rfl (by kernel_rfl) (fun _ _ _ h => h) (Or.inl ⟨by rfl, ?_⟩) ?_ ?_
    rotate_left
    · intro w'
      go_simp
      with_reducible rfl
    rotate_left
    · simp only [Act.put, List.setIfInBounds_toArray, List.set_cons_zero, List.set_cons_succ]
      rfl
    refine take_ (i := 4) (N := some 10) (v := ?_) (a' := ?_) #[true, true, false, true, true, false, false, false, false] rfl rfl (by kernel_rfl) (fun _ _ _ h => h) (Or.inl ⟨by rfl, ?_⟩) hHeld ?_ ?_
    rotate_left
    · rintro w' ⟨s0, s1, s2⟩
      go_simp
      with_reducible rfl
    rotate_left
    · simp only [Act.put, List.setIfInBounds_toArray, List.set_cons_zero, List.set_cons_succ]
      rfl
    refine two_ (i := 2) (j := 7) (Ni := some 8) (Nj := some 3) #[true, true, true, true, true, false, false, false, false] #[true, true, false, true, true, false, false, true, false] rfl rfl rfl rfl (by kernel_rfl) (by decide) (by decide) (fun K hK => ?_) (fun K hK => ?_)
    · refine goes_ Try.func52 (by kernel_rfl) rfl #[.agg #[.int .i64 x.f0.f0, .slice A1 m c1]] (by rfl) rfl rfl (by simp only [List.map_toArray, List.map_cons, List.map_nil]; rfl) ?_
      refine (HSTATE.out W0 HB0.out).mono ?_
      rintro e W1 ⟨v, rfl, hv, hb⟩
      obtain ⟨As, cs, rfl⟩ := Kd.R_slice hv.out
      rw [← Hm.out] at hv ⊢
      refine ⟨_, rfl, ?_⟩
      have HD1 := Lib.hid (blk_below HD0.out hb.out)
      have HE1 := Lib.hid (blk_below HE0.out hb.out)
      have HB1 := Lib.hid (HB0.out.trans (hb.out.mono HB0.out.size))
      have HS1 := Lib.hid (Kd.R_lower hv.out Hz0.out)
      have Hz1 : Hid (w.heap.size + 2 ≤ W1.heap.size) := Lib.hid (Nat.le_trans Hz0.out hb.out.size)
      refine hK.out _ _ ⟨blk_at HD1.out 0 rfl, blk_at HD1.out 1 rfl, blk_at HD1.out 3 rfl⟩ (fun hHeld => ?_)
      clear hK K HD0 HE0 HB0 Hz0 hb hv
      refine norm_ (a' := ?_) ?_ ?_
      rotate_left
      · show Act.put _ (some 8) _ = _
        simp only [Act.put, List.setIfInBounds_toArray, List.set_cons_zero, List.set_cons_succ]
        rfl
      refine two_ (i := 5) (j := 7) (Ni := some 11) (Nj := some 3) #[true, true, true, true, true, true, false, false, false] #[true, true, true, true, true, false, false, true, false] rfl rfl rfl rfl (by kernel_rfl) (by decide) (by decide) (fun K hK => ?_) (fun K hK => ?_)
      · refine goes_ Try.func53 (by kernel_rfl) rfl #[.slice A3 p c3] (by rfl) rfl rfl (by simp only [List.map_toArray, List.map_cons, List.map_nil]; rfl) ?_
        refine (HPEND.out W1 HB1.out).mono ?_
        rintro e W2 ⟨v, rfl, hv, hb⟩
        obtain ⟨Av, cv, rfl⟩ := Kd.R_slice hv.out
        rw [← Hp.out] at hv ⊢
        refine ⟨_, rfl, ?_⟩
        have HD2 := Lib.hid (blk_below HD1.out hb.out)
        have HE2 := Lib.hid (blk_below HE1.out hb.out)
        have HS2 := Lib.hid (Kd.R_below HS1.out hb.out)
        have HB2 := Lib.hid (HB1.out.trans (hb.out.mono HB1.out.size))
        have HV2 := Lib.hid (Kd.R_lower hv.out Hz1.out)
        have Hz2 : Hid (w.heap.size + 2 ≤ W2.heap.size) := Lib.hid (Nat.le_trans Hz1.out hb.out.size)
        refine hK.out _ _ ⟨blk_at HD2.out 0 rfl, blk_at HD2.out 1 rfl, blk_at HD2.out 3 rfl⟩ (fun hHeld => ?_)
        clear hK K HD1 HE1 HB1 Hz1 HS1 hb hv
        refine norm_ (a' := ?_) ?_ ?_
        rotate_left
        · show Act.put _ (some 11) _ = _
          simp only [Act.put, List.setIfInBounds_toArray, List.set_cons_zero, List.set_cons_succ]
          rfl
        refine pure_ (i := 6) (N := some 12) (v := ?_) (a' := ?_) #[true, true, true, true, true, true, true, false, false] rfl rfl (by kernel_rfl) (fun _ _ _ h => h) (Or.inl ⟨by rfl, ?_⟩) ?_ ?_
        rotate_left
        · intro w'
          go_simp
          with_reducible rfl
        rotate_left
        · simp only [Act.put, List.setIfInBounds_toArray, List.set_cons_zero, List.set_cons_succ]
          rfl
        refine one_ (i := 7) (N := some 3) #[true, true, true, true, true, true, true, true, false] rfl rfl (by kernel_rfl) (by decide) (fun K hK => ?_)
        refine value_ (w1 := (W2.alloc (.cells #[.int .i64 0, .slice none 0 0, .slice none 0 0, .slice none 0 0] 40))) (v := .pointer (some ⟨W2.heap.size, 0, none⟩)) (by rfl) rfl (by go_simp) ?_
        have HG3 : Hid ((W2.alloc (.cells #[.int .i64 0, .slice none 0 0, .slice none 0 0, .slice none 0 0] 40)).heap[W2.heap.size]? = some (.cells #[.int .i64 0, .slice none 0 0, .slice none 0 0, .slice none 0 0] 40 (0, 0))) := Lib.hid (blk_new _ _)
        have HD3 := Lib.hid (blk_alloc HD2.out (.cells #[.int .i64 0, .slice none 0 0, .slice none 0 0, .slice none 0 0] 40))
        have HE3 := Lib.hid (blk_alloc HE2.out (.cells #[.int .i64 0, .slice none 0 0, .slice none 0 0, .slice none 0 0] 40))
        have HS3 := Lib.hid (Kd.R_alloc HS2.out (.cells #[.int .i64 0, .slice none 0 0, .slice none 0 0, .slice none 0 0] 40))
        have HV3 := Lib.hid (Kd.R_alloc HV2.out (.cells #[.int .i64 0, .slice none 0 0, .slice none 0 0, .slice none 0 0] 40))
        have HB3 := Lib.hid (HB2.out.alloc HB2.out.size (.cells #[.int .i64 0, .slice none 0 0, .slice none 0 0, .slice none 0 0] 40))
        have Hgo : Hid (w.heap.size + 2 ≤ W2.heap.size) := Lib.hid Hz2.out
        have Hz3 : Hid (w.heap.size + 2 ≤ (W2.alloc (.cells #[.int .i64 0, .slice none 0 0, .slice none 0 0, .slice none 0 0] 40)).heap.size) := Lib.hid (by simp only [World.size_alloc]; have := Hz2.out; omega)
        refine hK.out _ _ ⟨blk_at HD3.out 0 rfl, blk_at HD3.out 1 rfl, blk_at HD3.out 3 rfl⟩ (fun hHeld => ?_)
        clear hK K HD2 HE2 HB2 Hz2 HS2 HV2
        generalize (W2.alloc (.cells #[.int .i64 0, .slice none 0 0, .slice none 0 0, .slice none 0 0] 40)) = W3 at *
        generalize W2.heap.size = go at *
        refine norm_ (a' := ?_) ?_ ?_
        rotate_left
        · show Act.put _ (some 3) _ = _
          simp only [Act.put, List.setIfInBounds_toArray, List.set_cons_zero, List.set_cons_succ]
          rfl
        refine last_ (i := 8) (N := none) #[true, true, true, true, true, true, true, true, true] rfl rfl (by kernel_rfl) (by decide) (fun K hK => ?_)
        have y0 : W3.cell? ⟨go, 0, none⟩ = some (.int .i64 0) := blk_at HG3.out 0 rfl
        have y1 : W3.cell? ⟨go, 1, none⟩ = some (.slice none 0 0) := blk_at HG3.out 1 rfl
        have y2 : W3.cell? ⟨go, 2, none⟩ = some (.slice none 0 0) := blk_at HG3.out 2 rfl
        have y3 : W3.cell? ⟨go, 3, none⟩ = some (.slice none 0 0) := blk_at HG3.out 3 rfl
        have z0 : W3.frozen? ⟨go, 0, none⟩ = false := blk_frozen HG3.out 0
        have z1 : W3.frozen? ⟨go, 1, none⟩ = false := blk_frozen HG3.out 1
        have z2 : W3.frozen? ⟨go, 2, none⟩ = false := blk_frozen HG3.out 2
        have z3 : W3.frozen? ⟨go, 3, none⟩ = false := blk_frozen HG3.out 3
        refine skip_ (w1 := ((((W3.setCell ⟨go, 0, none⟩ (.int .i64 x.f0.f0)).setCell ⟨go, 1, none⟩ (.slice As m cs)).setCell ⟨go, 2, none⟩ (.slice none 0 0)).setCell ⟨go, 3, none⟩ (.slice Av p cv))) (by rfl) rfl (by go_simp) ?_
        refine hK.out _ _ ?_
        clear hK K y0 y1 y2 y3 z0 z1 z2 z3
        refine done_ (by kernel_rfl) ?_
        have n0 : w.heap.size ≠ go := by have := Hgo.out; omega
        have n1 : w.heap.size + 1 ≠ go := by have := Hgo.out; omega
        have gg : ∀ (W : World) (i : Nat) (u : Value), Below w.heap.size w W → Below w.heap.size w (W.setCell ⟨go, i, none⟩ u) := fun W i u hW => hW.setCell (by have := Hgo.out; simp only []; omega) _
        have hg0 := HG3.out
        have hg1 := blk_put hg0 0 (.int .i64 x.f0.f0) rfl
        have hg2 := blk_put hg1 1 (.slice As m cs) rfl
        have hg3 := blk_put hg2 2 (.slice none 0 0) rfl
        have hg4 := blk_put hg3 3 (.slice Av p cv) rfl
        go_wp2_with (fail)
        go_meet
        exact ⟨go, As, cs, Av, cv, rfl, Lib.hid hg4, Lib.hid (blk_far (blk_far (blk_far (blk_far (HD3.out) n0 _) n0 _) n0 _) n0 _), Lib.hid (blk_far (blk_far (blk_far (blk_far (HE3.out) n1 _) n1 _) n1 _) n1 _), Lib.hid (Kd.R_set (Kd.R_set (Kd.R_set (Kd.R_set (HS3.out) hg0 e103 0 _) hg1 e103 1 _) hg2 e103 2 _) hg3 e103 3 _), Lib.hid (Kd.R_set (Kd.R_set (Kd.R_set (Kd.R_set (HV3.out) hg0 e83 0 _) hg1 e83 1 _) hg2 e83 2 _) hg3 e83 3 _), Lib.hid (gg _ 3 _ (gg _ 2 _ (gg _ 1 _ (gg _ 0 _ (HB3.out))))), Hgo⟩
      · refine value_ (w1 := (W1.alloc (.cells #[.int .i64 0, .slice none 0 0, .slice none 0 0, .slice none 0 0] 40))) (v := .pointer (some ⟨W1.heap.size, 0, none⟩)) (by rfl) rfl (by go_simp) ?_
        have HG2 : Hid ((W1.alloc (.cells #[.int .i64 0, .slice none 0 0, .slice none 0 0, .slice none 0 0] 40)).heap[W1.heap.size]? = some (.cells #[.int .i64 0, .slice none 0 0, .slice none 0 0, .slice none 0 0] 40 (0, 0))) := Lib.hid (blk_new _ _)
        have HD2 := Lib.hid (blk_alloc HD1.out (.cells #[.int .i64 0, .slice none 0 0, .slice none 0 0, .slice none 0 0] 40))
        have HE2 := Lib.hid (blk_alloc HE1.out (.cells #[.int .i64 0, .slice none 0 0, .slice none 0 0, .slice none 0 0] 40))
        have HS2 := Lib.hid (Kd.R_alloc HS1.out (.cells #[.int .i64 0, .slice none 0 0, .slice none 0 0, .slice none 0 0] 40))
        have HB2 := Lib.hid (HB1.out.alloc HB1.out.size (.cells #[.int .i64 0, .slice none 0 0, .slice none 0 0, .slice none 0 0] 40))
        have Hgo : Hid (w.heap.size + 2 ≤ W1.heap.size) := Lib.hid Hz1.out
        have Hz2 : Hid (w.heap.size + 2 ≤ (W1.alloc (.cells #[.int .i64 0, .slice none 0 0, .slice none 0 0, .slice none 0 0] 40)).heap.size) := Lib.hid (by simp only [World.size_alloc]; have := Hz1.out; omega)
        refine hK.out _ _ ⟨blk_at HD2.out 0 rfl, blk_at HD2.out 1 rfl, blk_at HD2.out 3 rfl⟩ (fun hHeld => ?_)
        clear hK K HD1 HE1 HB1 Hz1 HS1
        generalize (W1.alloc (.cells #[.int .i64 0, .slice none 0 0, .slice none 0 0, .slice none 0 0] 40)) = W2 at *
        generalize W1.heap.size = go at *
        refine norm_ (a' := ?_) ?_ ?_
        rotate_left
        · show Act.put _ (some 3) _ = _
          simp only [Act.put, List.setIfInBounds_toArray, List.set_cons_zero, List.set_cons_succ]
          rfl
        refine one_ (i := 5) (N := some 11) #[true, true, true, true, true, true, false, true, false] rfl rfl (by kernel_rfl) (by decide) (fun K hK => ?_)
        refine goes_ Try.func53 (by kernel_rfl) rfl #[.slice A3 p c3] (by rfl) rfl rfl (by simp only [List.map_toArray, List.map_cons, List.map_nil]; rfl) ?_
        refine (HPEND.out W2 HB2.out).mono ?_
        rintro e W3 ⟨v, rfl, hv, hb⟩
        obtain ⟨Av, cv, rfl⟩ := Kd.R_slice hv.out
        rw [← Hp.out] at hv ⊢
        refine ⟨_, rfl, ?_⟩
        have HD3 := Lib.hid (blk_below HD2.out hb.out)
        have HE3 := Lib.hid (blk_below HE2.out hb.out)
        have HG3 := Lib.hid (blk_below HG2.out hb.out)
        have HS3 := Lib.hid (Kd.R_below HS2.out hb.out)
        have HB3 := Lib.hid (HB2.out.trans (hb.out.mono HB2.out.size))
        have HV3 := Lib.hid (Kd.R_lower hv.out Hz2.out)
        have Hz3 : Hid (w.heap.size + 2 ≤ W3.heap.size) := Lib.hid (Nat.le_trans Hz2.out hb.out.size)
        refine hK.out _ _ ⟨blk_at HD3.out 0 rfl, blk_at HD3.out 1 rfl, blk_at HD3.out 3 rfl⟩ (fun hHeld => ?_)
        clear hK K HD2 HE2 HB2 Hz2 HG2 HS2 hb hv
        refine norm_ (a' := ?_) ?_ ?_
        rotate_left
        · show Act.put _ (some 11) _ = _
          simp only [Act.put, List.setIfInBounds_toArray, List.set_cons_zero, List.set_cons_succ]
          rfl
        refine pure_ (i := 6) (N := some 12) (v := ?_) (a' := ?_) #[true, true, true, true, true, true, true, true, false] rfl rfl (by kernel_rfl) (fun _ _ _ h => h) (Or.inl ⟨by rfl, ?_⟩) ?_ ?_
        rotate_left
        · intro w'
          go_simp
          with_reducible rfl
        rotate_left
        · simp only [Act.put, List.setIfInBounds_toArray, List.set_cons_zero, List.set_cons_succ]
          rfl
        refine last_ (i := 8) (N := none) #[true, true, true, true, true, true, true, true, true] rfl rfl (by kernel_rfl) (by decide) (fun K hK => ?_)
        have y0 : W3.cell? ⟨go, 0, none⟩ = some (.int .i64 0) := blk_at HG3.out 0 rfl
        have y1 : W3.cell? ⟨go, 1, none⟩ = some (.slice none 0 0) := blk_at HG3.out 1 rfl
        have y2 : W3.cell? ⟨go, 2, none⟩ = some (.slice none 0 0) := blk_at HG3.out 2 rfl
        have y3 : W3.cell? ⟨go, 3, none⟩ = some (.slice none 0 0) := blk_at HG3.out 3 rfl
        have z0 : W3.frozen? ⟨go, 0, none⟩ = false := blk_frozen HG3.out 0
        have z1 : W3.frozen? ⟨go, 1, none⟩ = false := blk_frozen HG3.out 1
        have z2 : W3.frozen? ⟨go, 2, none⟩ = false := blk_frozen HG3.out 2
        have z3 : W3.frozen? ⟨go, 3, none⟩ = false := blk_frozen HG3.out 3
        refine skip_ (w1 := ((((W3.setCell ⟨go, 0, none⟩ (.int .i64 x.f0.f0)).setCell ⟨go, 1, none⟩ (.slice As m cs)).setCell ⟨go, 2, none⟩ (.slice none 0 0)).setCell ⟨go, 3, none⟩ (.slice Av p cv))) (by rfl) rfl (by go_simp) ?_
        refine hK.out _ _ ?_
        clear hK K y0 y1 y2 y3 z0 z1 z2 z3
        refine done_ (by kernel_rfl) ?_
        have n0 : w.heap.size ≠ go := by have := Hgo.out; omega
        have n1 : w.heap.size + 1 ≠ go := by have := Hgo.out; omega
        have gg : ∀ (W : World) (i : Nat) (u : Value), Below w.heap.size w W → Below w.heap.size w (W.setCell ⟨go, i, none⟩ u) := fun W i u hW => hW.setCell (by have := Hgo.out; simp only []; omega) _
        have hg0 := HG3.out
        have hg1 := blk_put hg0 0 (.int .i64 x.f0.f0) rfl
        have hg2 := blk_put hg1 1 (.slice As m cs) rfl
        have hg3 := blk_put hg2 2 (.slice none 0 0) rfl
        have hg4 := blk_put hg3 3 (.slice Av p cv) rfl
        go_wp2_with (fail)
        go_meet
        exact ⟨go, As, cs, Av, cv, rfl, Lib.hid hg4, Lib.hid (blk_far (blk_far (blk_far (blk_far (HD3.out) n0 _) n0 _) n0 _) n0 _), Lib.hid (blk_far (blk_far (blk_far (blk_far (HE3.out) n1 _) n1 _) n1 _) n1 _), Lib.hid (Kd.R_set (Kd.R_set (Kd.R_set (Kd.R_set (HS3.out) hg0 e103 0 _) hg1 e103 1 _) hg2 e103 2 _) hg3 e103 3 _), Lib.hid (Kd.R_set (Kd.R_set (Kd.R_set (Kd.R_set (HV3.out) hg0 e83 0 _) hg1 e83 1 _) hg2 e83 2 _) hg3 e83 3 _), Lib.hid (gg _ 3 _ (gg _ 2 _ (gg _ 1 _ (gg _ 0 _ (HB3.out))))), Hgo⟩
    · refine value_ (w1 := (W0.alloc (.cells #[.int .i64 0, .slice none 0 0, .slice none 0 0, .slice none 0 0] 40))) (v := .pointer (some ⟨W0.heap.size, 0, none⟩)) (by rfl) rfl (by go_simp) ?_
      have HG1 : Hid ((W0.alloc (.cells #[.int .i64 0, .slice none 0 0, .slice none 0 0, .slice none 0 0] 40)).heap[W0.heap.size]? = some (.cells #[.int .i64 0, .slice none 0 0, .slice none 0 0, .slice none 0 0] 40 (0, 0))) := Lib.hid (blk_new _ _)
      have HD1 := Lib.hid (blk_alloc HD0.out (.cells #[.int .i64 0, .slice none 0 0, .slice none 0 0, .slice none 0 0] 40))
      have HE1 := Lib.hid (blk_alloc HE0.out (.cells #[.int .i64 0, .slice none 0 0, .slice none 0 0, .slice none 0 0] 40))
      have HB1 := Lib.hid (HB0.out.alloc HB0.out.size (.cells #[.int .i64 0, .slice none 0 0, .slice none 0 0, .slice none 0 0] 40))
      have Hgo : Hid (w.heap.size + 2 ≤ W0.heap.size) := Lib.hid Hz0.out
      have Hz1 : Hid (w.heap.size + 2 ≤ (W0.alloc (.cells #[.int .i64 0, .slice none 0 0, .slice none 0 0, .slice none 0 0] 40)).heap.size) := Lib.hid (by simp only [World.size_alloc]; have := Hz0.out; omega)
      refine hK.out _ _ ⟨blk_at HD1.out 0 rfl, blk_at HD1.out 1 rfl, blk_at HD1.out 3 rfl⟩ (fun hHeld => ?_)
      clear hK K HD0 HE0 HB0 Hz0
      generalize (W0.alloc (.cells #[.int .i64 0, .slice none 0 0, .slice none 0 0, .slice none 0 0] 40)) = W1 at *
      generalize W0.heap.size = go at *
      refine norm_ (a' := ?_) ?_ ?_
      rotate_left
      · show Act.put _ (some 3) _ = _
        simp only [Act.put, List.setIfInBounds_toArray, List.set_cons_zero, List.set_cons_succ]
        rfl
      refine one_ (i := 2) (N := some 8) #[true, true, true, true, true, false, false, true, false] rfl rfl (by kernel_rfl) (by decide) (fun K hK => ?_)
      refine goes_ Try.func52 (by kernel_rfl) rfl #[.agg #[.int .i64 x.f0.f0, .slice A1 m c1]] (by rfl) rfl rfl (by simp only [List.map_toArray, List.map_cons, List.map_nil]; rfl) ?_
      refine (HSTATE.out W1 HB1.out).mono ?_
      rintro e W2 ⟨v, rfl, hv, hb⟩
      obtain ⟨As, cs, rfl⟩ := Kd.R_slice hv.out
      rw [← Hm.out] at hv ⊢
      refine ⟨_, rfl, ?_⟩
      have HD2 := Lib.hid (blk_below HD1.out hb.out)
      have HE2 := Lib.hid (blk_below HE1.out hb.out)
      have HG2 := Lib.hid (blk_below HG1.out hb.out)
      have HB2 := Lib.hid (HB1.out.trans (hb.out.mono HB1.out.size))
      have HS2 := Lib.hid (Kd.R_lower hv.out Hz1.out)
      have Hz2 : Hid (w.heap.size + 2 ≤ W2.heap.size) := Lib.hid (Nat.le_trans Hz1.out hb.out.size)
      refine hK.out _ _ ⟨blk_at HD2.out 0 rfl, blk_at HD2.out 1 rfl, blk_at HD2.out 3 rfl⟩ (fun hHeld => ?_)
      clear hK K HD1 HE1 HB1 Hz1 HG1 hb hv
      refine norm_ (a' := ?_) ?_ ?_
      rotate_left
      · show Act.put _ (some 8) _ = _
        simp only [Act.put, List.setIfInBounds_toArray, List.set_cons_zero, List.set_cons_succ]
        rfl
      refine one_ (i := 5) (N := some 11) #[true, true, true, true, true, true, false, true, false] rfl rfl (by kernel_rfl) (by decide) (fun K hK => ?_)
      refine goes_ Try.func53 (by kernel_rfl) rfl #[.slice A3 p c3] (by rfl) rfl rfl (by simp only [List.map_toArray, List.map_cons, List.map_nil]; rfl) ?_
      refine (HPEND.out W2 HB2.out).mono ?_
      rintro e W3 ⟨v, rfl, hv, hb⟩
      obtain ⟨Av, cv, rfl⟩ := Kd.R_slice hv.out
      rw [← Hp.out] at hv ⊢
      refine ⟨_, rfl, ?_⟩
      have HD3 := Lib.hid (blk_below HD2.out hb.out)
      have HE3 := Lib.hid (blk_below HE2.out hb.out)
      have HG3 := Lib.hid (blk_below HG2.out hb.out)
      have HS3 := Lib.hid (Kd.R_below HS2.out hb.out)
      have HB3 := Lib.hid (HB2.out.trans (hb.out.mono HB2.out.size))
      have HV3 := Lib.hid (Kd.R_lower hv.out Hz2.out)
      have Hz3 : Hid (w.heap.size + 2 ≤ W3.heap.size) := Lib.hid (Nat.le_trans Hz2.out hb.out.size)
      refine hK.out _ _ ⟨blk_at HD3.out 0 rfl, blk_at HD3.out 1 rfl, blk_at HD3.out 3 rfl⟩ (fun hHeld => ?_)
      clear hK K HD2 HE2 HB2 Hz2 HG2 HS2 hb hv
      refine norm_ (a' := ?_) ?_ ?_
      rotate_left
      · show Act.put _ (some 11) _ = _
        simp only [Act.put, List.setIfInBounds_toArray, List.set_cons_zero, List.set_cons_succ]
        rfl
      refine pure_ (i := 6) (N := some 12) (v := ?_) (a' := ?_) #[true, true, true, true, true, true, true, true, false] rfl rfl (by kernel_rfl) (fun _ _ _ h => h) (Or.inl ⟨by rfl, ?_⟩) ?_ ?_
      rotate_left
      · intro w'
        go_simp
        with_reducible rfl
      rotate_left
      · simp only [Act.put, List.setIfInBounds_toArray, List.set_cons_zero, List.set_cons_succ]
        rfl
      refine last_ (i := 8) (N := none) #[true, true, true, true, true, true, true, true, true] rfl rfl (by kernel_rfl) (by decide) (fun K hK => ?_)
      have y0 : W3.cell? ⟨go, 0, none⟩ = some (.int .i64 0) := blk_at HG3.out 0 rfl
      have y1 : W3.cell? ⟨go, 1, none⟩ = some (.slice none 0 0) := blk_at HG3.out 1 rfl
      have y2 : W3.cell? ⟨go, 2, none⟩ = some (.slice none 0 0) := blk_at HG3.out 2 rfl
      have y3 : W3.cell? ⟨go, 3, none⟩ = some (.slice none 0 0) := blk_at HG3.out 3 rfl
      have z0 : W3.frozen? ⟨go, 0, none⟩ = false := blk_frozen HG3.out 0
      have z1 : W3.frozen? ⟨go, 1, none⟩ = false := blk_frozen HG3.out 1
      have z2 : W3.frozen? ⟨go, 2, none⟩ = false := blk_frozen HG3.out 2
      have z3 : W3.frozen? ⟨go, 3, none⟩ = false := blk_frozen HG3.out 3
      refine skip_ (w1 := ((((W3.setCell ⟨go, 0, none⟩ (.int .i64 x.f0.f0)).setCell ⟨go, 1, none⟩ (.slice As m cs)).setCell ⟨go, 2, none⟩ (.slice none 0 0)).setCell ⟨go, 3, none⟩ (.slice Av p cv))) (by rfl) rfl (by go_simp) ?_
      refine hK.out _ _ ?_
      clear hK K y0 y1 y2 y3 z0 z1 z2 z3
      refine done_ (by kernel_rfl) ?_
      have n0 : w.heap.size ≠ go := by have := Hgo.out; omega
      have n1 : w.heap.size + 1 ≠ go := by have := Hgo.out; omega
      have gg : ∀ (W : World) (i : Nat) (u : Value), Below w.heap.size w W → Below w.heap.size w (W.setCell ⟨go, i, none⟩ u) := fun W i u hW => hW.setCell (by have := Hgo.out; simp only []; omega) _
      have hg0 := HG3.out
      have hg1 := blk_put hg0 0 (.int .i64 x.f0.f0) rfl
      have hg2 := blk_put hg1 1 (.slice As m cs) rfl
      have hg3 := blk_put hg2 2 (.slice none 0 0) rfl
      have hg4 := blk_put hg3 3 (.slice Av p cv) rfl
      go_wp2_with (fail)
      go_meet
      exact ⟨go, As, cs, Av, cv, rfl, Lib.hid hg4, Lib.hid (blk_far (blk_far (blk_far (blk_far (HD3.out) n0 _) n0 _) n0 _) n0 _), Lib.hid (blk_far (blk_far (blk_far (blk_far (HE3.out) n1 _) n1 _) n1 _) n1 _), Lib.hid (Kd.R_set (Kd.R_set (Kd.R_set (Kd.R_set (HS3.out) hg0 e103 0 _) hg1 e103 1 _) hg2 e103 2 _) hg3 e103 3 _), Lib.hid (Kd.R_set (Kd.R_set (Kd.R_set (Kd.R_set (HV3.out) hg0 e83 0 _) hg1 e83 1 _) hg2 e83 2 _) hg3 e83 3 _), Lib.hid (gg _ 3 _ (gg _ 2 _ (gg _ 1 _ (gg _ 0 _ (HB3.out))))), Hgo⟩
  case rest =>
  obtain ⟨go, As, cs, Av, cv, rfl, HG0, HD0, HE0, HC0, HQ0, HB0, Hgo⟩ := hcut
  clear HD HE HB Hsz HPEND HSTATE
  replace HQ0 := Lib.hid (Kd.R_lower HQ0.out (Nat.le_add_right w.heap.size 2))
  replace HC0 := Lib.hid (Kd.R_lower HC0.out (Nat.le_add_right w.heap.size 2))
  go_wp2_with (fail)
  go_loopw [4] (fun v4 wr => ∃ k Ai ci, k ≤ n ∧ v4 = .int .i64 (k : Nat) ∧ Hid (wr.heap[go]? = some (.cells #[.int .i64 x.f0.f0, .slice As m cs, .slice Ai k ci, .slice Av p cv] 40 (0, 0))) ∧ Hid (Kd.R (Kd.slice 83 k83) 38 wr w.heap.size (fun _ => True) (.slice Ai k ci) (x.f1.take k)) ∧ Hid (wr.heap[w.heap.size]? = some (.cells #[.int .i64 x.f0.f0, .slice A1 m c1, .slice A2 n c2, .slice A3 p c3] 40 (0, 0))) ∧ Hid (wr.heap[w.heap.size + 1]? = some (.cells #[.int .i64 0, .slice none 0 0, .slice none 0 0, .slice none 0 0] 40 (0, 0))) ∧ Hid (Kd.R k103 103 wr w.heap.size (fun _ => True) (.slice As m cs) x.f0.f1) ∧ Hid (Kd.R k83 83 wr w.heap.size (fun _ => True) (.slice Av p cv) x.f2) ∧ Hid (Below w.heap.size w wr)) (fun v4 _ => n - (intOf v4).toNat)
  case atStart => exact ⟨0, none, 0, Nat.zero_le _, rfl, HG0, Lib.hid (Kd.R_nil _ _ _ _ _), HD0, HE0, HC0, HQ0, HB0⟩
  case round =>
    clear HG0 HD0 HE0 HB0 HQ0 HC0
    obtain ⟨k, Ai, ci, hk, rfl, HGa, HOa, HDa, HEa, HCa, HQa, HBa⟩ := hrel
    have a2 : wr.cell? ⟨w.heap.size, 2, none⟩ = some (.slice A2 n c2) := blk_at HDa.out 2 rfl
    by_cases hlt : k < n
    · obtain ⟨ad, Aq, cq, rfl, e0, hlq, hCq⟩ := at_L7 HC2.out (k : Int) (by omega) (by rw [← Hn.out]; omega)
      have hmem : rd_L7 x.f1 (k : Int) ∈ x.f1 := getD_mem _ _ _ (by rw [Int.toNat_natCast, ← Hn.out]; exact hlt)
      have htk : x.f1.take (k + 1) = x.f1.take k ++ [rd_L7 x.f1 (k : Int)] := take_getD _ _ _ (by rw [← Hn.out]; exact hlt)
      generalize rd_L7 x.f1 (k : Int) = y at *
      have Htk := Lib.hid htk
      have Hlk : Hid ((x.f1.take (k + 1)).length = k + 1) := Lib.hid (by rw [List.length_take, ← Hn.out]; omega)
      have Hlm : Hid (x.f1.length ≤ 100000) := Lib.hid (by have := Hn.out; omega)
      have HLU := Lib.hid (Kd.R_lt HOa.out)
      have n0 : w.heap.size ≠ go := by have := Hgo.out; omega
      have n1 : w.heap.size + 1 ≠ go := by have := Hgo.out; omega
      rw [Int.toNat_natCast] at e0
      replace e0 := pw_cell_below HBa.out e0
      have HZ := Lib.hid (records53 y Aq cq wr (Kd.C_below hCq HBa.out) (by have h1 := partsLs_mem hmem; have h2 := Hpp.out; unfold partsP at h2; omega))
      clear htk hmem hCq hlq
      go_upto_region 6 with (go_at_call 53; refine HZ.out.mono ?_; rintro e w1 ⟨v, rfl, hv, hb⟩; obtain ⟨Aw, cw, rfl⟩ := Kd.R_slice hv.out)
      clear e0 a2
      have HG1 := Lib.hid (blk_below HGa.out hb.out)
      have HD1 := Lib.hid (blk_below HDa.out hb.out)
      have HE1 := Lib.hid (blk_below HEa.out hb.out)
      have HO1 := Lib.hid (Kd.R_below HOa.out hb.out)
      have HC1 := Lib.hid (Kd.R_below HCa.out hb.out)
      have HQ1 := Lib.hid (Kd.R_below HQa.out hb.out)
      have HT1 : Hid (Below w.heap.size w w1) := Lib.hid (HBa.out.trans (hb.out.mono HBa.out.size))
      have HNV := Lib.hid (Kd.R_lower (Kd.R_new' hv.out HLU.out) HBa.out.size)
      have g2 : w1.cell? ⟨go, 2, none⟩ = some (.slice Ai k ci) := blk_at HG1.out 2 rfl
      clear hv hb
      go_wp2_with (at_builtin; refine Kd.R_append (Kd.slice 83 k83) (w0 := w) w.heap.size rfl (.tmp 27) (.tmp 29) 37 38 (.slice none 0 0) 24 rfl Try.underlying37 info38 rfl (by decide) (by decide) (.slice Ai k ci) (x.f1.take k) y _ (fun _ => True) (fun k_ => True ∧ some k_ ≠ (Value.slice Ai k ci).ownBlock) rfl rfl ?hp (fun _ hk => hk) (fun _ _ => trivial) HO1.out HT1.out ?hS ?hl ?_
                   case hp => exact ⟨_, rfl, HNV.out⟩
                   case hS => exact HT1.out.size
                   case hl => rw [List.length_take]; have := Hlm.out; omega
                   intro v2 w2 HO2 HB2 hg2 hat2
                   rw [← Htk.out] at HO2
                   obtain ⟨A2', cp2, e2⟩ := Kd.R_slice HO2
                   rw [Hlk.out] at e2
                   subst e2
                   have HO2 := Lib.hid HO2
                   have HB2 := Lib.hid HB2
                   have HG2 := Lib.hid (blk_grown HG1.out hg2 (Kd.R_ne HO1.out HG1.out (by decide)))
                   have HD2 := Lib.hid (blk_grown HD1.out hg2 (Kd.R_ne HO1.out HD1.out (by decide)))
                   have HE2 := Lib.hid (blk_grown HE1.out hg2 (Kd.R_ne HO1.out HE1.out (by decide)))
                   have HC2' := Lib.hid (Kd.R_over HC1.out HO1.out e103_38 hg2)
                   have HQ2 := Lib.hid (Kd.R_over HQ1.out HO1.out e83_38 hg2)
                   have y2 : w2.cell? ⟨go, 2, none⟩ = some (.slice Ai k ci) := blk_at HG2.out 2 rfl
                   have z2 : w2.frozen? ⟨go, 2, none⟩ = false := blk_frozen HG2.out 2
                   clear hg2 hat2)
      go_roundw
      case rel =>
        exact ⟨k + 1, A2', cp2, by omega, by go_num, Lib.hid (blk_put HG2.out 2 _ rfl), Lib.hid (Kd.R_set HO2.out HG2.out e38 2 _), Lib.hid (blk_far HD2.out n0 _), Lib.hid (blk_far HE2.out n1 _), Lib.hid (Kd.R_set HC2'.out HG2.out e103 2 _), Lib.hid (Kd.R_set HQ2.out HG2.out e83 2 _), Lib.hid (HB2.out.setCell (by have := Hgo.out; simp only []; omega) _)⟩
      case measure => simp [intOf]; omega
    · obtain rfl : k = n := by omega
      rw [List.take_of_length_le (by rw [Hn.out]; exact Nat.le_refl _)] at HOa
      have g0 : wr.cell? ⟨go, 0, none⟩ = some (.int .i64 x.f0.f0) := blk_at HGa.out 0 rfl
      have g1 : wr.cell? ⟨go, 1, none⟩ = some (.slice As m cs) := blk_at HGa.out 1 rfl
      have g2 : wr.cell? ⟨go, 2, none⟩ = some (.slice Ai k ci) := blk_at HGa.out 2 rfl
      have g3 : wr.cell? ⟨go, 3, none⟩ = some (.slice Av p cv) := blk_at HGa.out 3 rfl
      have y0 : wr.cell? ⟨w.heap.size + 1, 0, none⟩ = some (.int .i64 0) := blk_at HEa.out 0 rfl
      have z0 : wr.frozen? ⟨w.heap.size + 1, 0, none⟩ = false := blk_frozen HEa.out 0
      have y1 : wr.cell? ⟨w.heap.size + 1, 1, none⟩ = some (.slice none 0 0) := blk_at HEa.out 1 rfl
      have z1 : wr.frozen? ⟨w.heap.size + 1, 1, none⟩ = false := blk_frozen HEa.out 1
      have y2 : wr.cell? ⟨w.heap.size + 1, 2, none⟩ = some (.slice none 0 0) := blk_at HEa.out 2 rfl
      have z2 : wr.frozen? ⟨w.heap.size + 1, 2, none⟩ = false := blk_frozen HEa.out 2
      have y3 : wr.cell? ⟨w.heap.size + 1, 3, none⟩ = some (.slice none 0 0) := blk_at HEa.out 3 rfl
      have z3 : wr.frozen? ⟨w.heap.size + 1, 3, none⟩ = false := blk_frozen HEa.out 3
      go_wp2_with (fail)
      have hb1 := blk_put HEa.out 0 (.int .i64 x.f0.f0) rfl
      have hb2 := blk_put hb1 1 (.slice As m cs) rfl
      have hb3 := blk_put hb2 2 (.slice Ai k ci) rfl
      have hb4 := blk_put hb3 3 (.slice Av p cv) rfl
      refine bodyPost_ret (results_cell_row rfl _ _ (w.heap.size + 1) 40 #[.int .i64 x.f0.f0, .slice As m cs, .slice Ai k ci, .slice Av p cv] (0, 0) _ rfl hb4 Try.underlying40 rfl (by kernel_rfl)) rfl ⟨_, _, _, rfl, ?_, ?_, ?_, ?_⟩
      · exact Lib.hid (Kd.R_set (Kd.R_set (Kd.R_set (Kd.R_set HCa.out HEa.out e103 0 _) hb1 e103 1 _) hb2 e103 2 _) hb3 e103 3 _)
      · exact Lib.hid (Kd.R_set (Kd.R_set (Kd.R_set (Kd.R_set HOa.out HEa.out e38 0 _) hb1 e38 1 _) hb2 e38 2 _) hb3 e38 3 _)
      · exact Lib.hid (Kd.R_set (Kd.R_set (Kd.R_set (Kd.R_set HQa.out HEa.out e83 0 _) hb1 e83 1 _) hb2 e83 2 _) hb3 e83 3 _)
      · refine Lib.hid ?_
        iterate 4 refine Below.setCell ?_ (by simp) _
        exact HBa.out
end Go.Proofs.Ytcbaiplamaopeaa.PPostShots
