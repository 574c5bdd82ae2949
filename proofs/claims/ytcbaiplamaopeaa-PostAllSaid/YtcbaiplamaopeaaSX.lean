/- samePart of two that are the same. -/
import Derived.Test.YtcbaiplamaopeaaSU
namespace Go.Proofs.Ytcbaiplamaopeaa.PPostShots
open Go.RowKit Go.Conc Go.Proofs.YtcbaiplamaopeaaW.PrintWords Go.Proofs.YtcbaiplamaopeaaW.PrintLast
set_option linter.unusedVariables false
set_option linter.unusedSimpArgs false

set_option maxRecDepth 100000 in
set_option maxHeartbeats 4000000 in
theorem same13 (s : S36) (l : List (List S83)) (p : List S83) (A1 : Option Addr) (c1 : Nat) (A2 : Option Addr) (c2 : Nat) (A3 : Option Addr) (c3 : Nat) (B1 : Option Addr) (d1 : Nat) (B2 : Option Addr) (d2 : Nat) (B3 : Option Addr) (d3 : Nat) (w : World)
    (hA1 : Kd.C k103 w A1 s.f1.length s.f1) (hA2 : Kd.C (Kd.slice 83 k83) w A2 l.length l) (hA3 : Kd.C k83 w A3 p.length p) (hB1 : Kd.C k103 w B1 s.f1.length s.f1) (hB2 : Kd.C (Kd.slice 83 k83) w B2 l.length l) (hB3 : Kd.C k83 w B3 p.length p) (hc1 : s.f1.length ≤ c1) (hd1 : s.f1.length ≤ d1) (hs : partsC s.f1 ≤ 100000) (hp3 : ∀ y ∈ p, y.f2.length ≤ 1000000) (hl3 : ∀ z ∈ l, ∀ y ∈ z, y.f2.length ≤ 1000000) :
    Calls Try.prog 13 #[.agg #[.int .i64 s.f0, .slice A1 s.f1.length c1, .slice A2 l.length c2, .slice A3 p.length c3], .agg #[.int .i64 s.f0, .slice B1 s.f1.length d1, .slice B2 l.length d2, .slice B3 p.length d3]] w fun e w' => Yes w e w' := by
  obtain ⟨n, hn⟩ : ∃ n, n = l.length := ⟨_, rfl⟩
  have hmx : n ≤ 9223372036854775807 := by rw [hn]; exact Kd.C_max hA2
  have HBb := Lib.hid hA2
  have HBd := Lib.hid hB2
  have Hn := Lib.hid hn
  have HL := Lib.hid hl3
  have HY1 : Hid (∀ W, Below w.heap.size w W → Calls Try.prog 28 #[.agg #[.int .i64 s.f0, .slice A1 s.f1.length c1], .agg #[.int .i64 s.f0, .slice B1 s.f1.length d1]] W fun e w' => Yes W e w') := fun W hW => same28 s.f0 s.f1 hs A1 c1 B1 d1 W (Kd.C_below hA1 hW) hc1 (Kd.C_below hB1 hW) hd1
  have HY2 : Hid (∀ W, Below w.heap.size w W → Calls Try.prog 29 #[.slice A3 p.length c3, .slice B3 p.length d3] W fun e w' => Yes W e w') := fun W hW => same29 p hp3 A3 c3 B3 d3 W (Kd.C_below hA3 hW) (Kd.C_below hB3 hW)
  have HB0 : Hid (Below w.heap.size w ((w.alloc (.cells #[.int .i64 s.f0, .slice A1 s.f1.length c1, .slice A2 n c2, .slice A3 p.length c3] 40)).alloc (.cells #[.int .i64 s.f0, .slice B1 s.f1.length d1, .slice B2 n d2, .slice B3 p.length d3] 40))) := ((Below.refl _ _).alloc (Nat.le_refl _) _).alloc (by simp) _
  have HC0 : Hid ((((w.alloc (.cells #[.int .i64 s.f0, .slice A1 s.f1.length c1, .slice A2 n c2, .slice A3 p.length c3] 40)).alloc (.cells #[.int .i64 s.f0, .slice B1 s.f1.length d1, .slice B2 n d2, .slice B3 p.length d3] 40))).heap[w.heap.size]? = some (.cells #[.int .i64 s.f0, .slice A1 s.f1.length c1, .slice A2 n c2, .slice A3 p.length c3] 40 (0, 0))) := blk_alloc (blk_new w _) _
  have HD0 : Hid ((((w.alloc (.cells #[.int .i64 s.f0, .slice A1 s.f1.length c1, .slice A2 n c2, .slice A3 p.length c3] 40)).alloc (.cells #[.int .i64 s.f0, .slice B1 s.f1.length d1, .slice B2 n d2, .slice B3 p.length d3] 40))).heap[w.heap.size + 1]? = some (.cells #[.int .i64 s.f0, .slice B1 s.f1.length d1, .slice B2 n d2, .slice B3 p.length d3] 40 (0, 0))) := by
    have := blk_new (w.alloc (.cells #[.int .i64 s.f0, .slice A1 s.f1.length c1, .slice A2 n c2, .slice A3 p.length c3] 40)) (.cells #[.int .i64 s.f0, .slice B1 s.f1.length d1, .slice B2 n d2, .slice B3 p.length d3] 40)
    simp only [World.size_alloc] at this
    exact this
  clear hA1 hA2 hA3 hB1 hB2 hB3 hc1 hd1 hs hp3 hl3
  rw [← hn]
  clear hn
  go_enter Try.func13, Try.ntmps13
  go_wp2_with (first
    | (go_at_call 28; refine (HY1.out _ HB0.out).mono ?_; rintro e w1 ⟨rfl, hb⟩
       have HB1 : Hid (Below w.heap.size w w1) := HB0.out.trans (hb.out.mono HB0.out.size)
       have HC1 : Hid (w1.heap[w.heap.size]? = some (.cells #[.int .i64 s.f0, .slice A1 s.f1.length c1, .slice A2 n c2, .slice A3 p.length c3] 40 (0, 0))) := (hb.out.block _ (blk_lt HC0.out)).trans HC0.out
       have HD1 : Hid (w1.heap[w.heap.size + 1]? = some (.cells #[.int .i64 s.f0, .slice B1 s.f1.length d1, .slice B2 n d2, .slice B3 p.length d3] 40 (0, 0))) := (hb.out.block _ (blk_lt HD0.out)).trans HD0.out
       have q31 : w1.cell? ⟨w.heap.size, 3, none⟩ = some (.slice A3 p.length c3) := blk_at HC1.out 3 rfl
       have p31 : w1.cell? ⟨w.heap.size + 1, 3, none⟩ = some (.slice B3 p.length d3) := blk_at HD1.out 3 rfl
       have q21 : w1.cell? ⟨w.heap.size, 2, none⟩ = some ( .slice A2 n c2) := blk_at HC1.out 2 rfl
       have p21 : w1.cell? ⟨w.heap.size + 1, 2, none⟩ = some ( .slice B2 n d2) := blk_at HD1.out 2 rfl
       clear hb)
    | (go_at_call 29; refine (HY2.out _ HB1.out).mono ?_; rintro e w2 ⟨rfl, hb⟩
       have HB2 : Hid (Below w.heap.size w w2) := HB1.out.trans (hb.out.mono HB1.out.size)
       have HC2 : Hid (w2.heap[w.heap.size]? = some (.cells #[.int .i64 s.f0, .slice A1 s.f1.length c1, .slice A2 n c2, .slice A3 p.length c3] 40 (0, 0))) := (hb.out.block _ (blk_lt HC1.out)).trans HC1.out
       have HD2 : Hid (w2.heap[w.heap.size + 1]? = some (.cells #[.int .i64 s.f0, .slice B1 s.f1.length d1, .slice B2 n d2, .slice B3 p.length d3] 40 (0, 0))) := (hb.out.block _ (blk_lt HD1.out)).trans HD1.out
       have q22 : w2.cell? ⟨w.heap.size, 2, none⟩ = some ( .slice A2 n c2) := blk_at HC2.out 2 rfl
       have p22 : w2.cell? ⟨w.heap.size + 1, 2, none⟩ = some ( .slice B2 n d2) := blk_at HD2.out 2 rfl
       clear hb))
  clear q31 p31 q21 p21 q22 p22
  go_loopw [5] (fun v5 wr => ∃ k : Nat, k ≤ n ∧ v5 = .int .i64 k ∧ Hid (Below w.heap.size w wr) ∧ Hid (wr.heap[w.heap.size]? = some (.cells #[.int .i64 s.f0, .slice A1 s.f1.length c1, .slice A2 n c2, .slice A3 p.length c3] 40 (0, 0))) ∧ Hid (wr.heap[w.heap.size + 1]? = some (.cells #[.int .i64 s.f0, .slice B1 s.f1.length d1, .slice B2 n d2, .slice B3 p.length d3] 40 (0, 0)))) (fun v5 _ => n - (intOf v5).toNat)
  case atStart => exact ⟨0, Nat.zero_le _, rfl, HB2, HC2, HD2⟩
  case round =>
    clear HB1 HC1 HD1 HB2 HC2 HD2
    obtain ⟨k, hk, rfl, HB, Ck, Dk⟩ := hrel
    have q2 : wr.cell? ⟨w.heap.size, 2, none⟩ = some (.slice A2 n c2) := blk_at Ck.out 2 rfl
    have p2 : wr.cell? ⟨w.heap.size + 1, 2, none⟩ = some (.slice B2 n d2) := blk_at Dk.out 2 rfl
    by_cases hlt : k < n
    · obtain ⟨ad, A0, c0, rfl, e0, hl0, hC0⟩ := at_L7 HBb.out (k : Int) (by omega) (by rw [← Hn.out]; omega)
      obtain ⟨bd, B0, d0, rfl, f0, hm0, hD0⟩ := at_L7 HBd.out (k : Int) (by omega) (by rw [← Hn.out]; omega)
      have hmem : rd_L7 l (k : Int) ∈ l := getD_mem' _ _ _ (by rw [Int.toNat_natCast, ← Hn.out]; exact hlt)
      generalize rd_L7 l (k : Int) = y at *
      rw [Int.toNat_natCast] at e0 f0
      replace e0 := (HB.out.cell (World.block_lt_of_cell? w _ e0)).trans e0
      replace f0 := (HB.out.cell (World.block_lt_of_cell? w _ f0)).trans f0
      have HY : Hid (∀ W, Below wr.heap.size wr W → Calls Try.prog 29 #[.slice A0 y.length c0, .slice B0 y.length d0] W fun e w' => Yes W e w') := fun W hW =>
        same29 y (HL.out y hmem) A0 c0 B0 d0 W (Kd.C_below hC0 (HB.out.trans (hW.mono HB.out.size))) (Kd.C_below hD0 (HB.out.trans (hW.mono HB.out.size)))
      clear hl0 hC0 hm0 hD0 hmem
      go_wp2
      refine start_ (n := 12) (S := (fun w' => w'.cell? ⟨w.heap.size, 2, none⟩ = some (.slice (some ad) n c2) ∧ w'.cell? ⟨w.heap.size + 1, 2, none⟩ = some (.slice (some bd) n d2) ∧ w'.cell? (ad.add k) = some (.slice A0 y.length c0) ∧ w'.cell? (bd.add k) = some (.slice B0 y.length d0))) (ds := []) #[false, false, false, false, false, false, false, false, false, false, false, false] (by kernel_rfl) rfl rfl ⟨q2, p2, e0, f0⟩ (fun hHeld => ?_)
      have HBW : Hid (Below wr.heap.size wr wr.drew) := (Below.refl _ _).drew
      have HBX : Hid (Below w.heap.size w wr.drew) := HB.out.drew
      generalize wr.drew = W at hHeld HBW HBX ⊢
      refine pure_ (i := 0) (N := some 36) (v := ?_) (a' := ?_) #[true, false, false, false, false, false, false, false, false, false, false, false] rfl rfl (by kernel_rfl) (fun _ _ _ h => h) (Or.inl ⟨by rfl, ?_⟩) ?_ ?_
      rotate_left
      · intro w'
        go_simp
        with_reducible rfl
      rotate_left
      · simp only [Act.put, List.setIfInBounds_toArray, List.set_cons_zero, List.set_cons_succ]
        rfl
      refine take_ (i := 1) (N := some 37) (v := ?_) (a' := ?_) #[true, true, false, false, false, false, false, false, false, false, false, false] rfl rfl (by kernel_rfl) (fun _ _ _ h => h) (Or.inl ⟨by rfl, ?_⟩) hHeld ?_ ?_
      rotate_left
      · rintro w' ⟨s0, s1, s2, s3⟩
        go_simp
        with_reducible rfl
      rotate_left
      · simp only [Act.put, List.setIfInBounds_toArray, List.set_cons_zero, List.set_cons_succ]
        rfl
      refine pure_ (i := 2) (N := some 38) (v := ?_) (a' := ?_) #[true, true, true, false, false, false, false, false, false, false, false, false] rfl rfl (by kernel_rfl) (fun _ _ _ h => h) (Or.inl ⟨by rfl, ?_⟩) ?_ ?_
      rotate_left
      · intro w'
        go_simp
        with_reducible rfl
      rotate_left
      · simp only [Act.put, List.setIfInBounds_toArray, List.set_cons_zero, List.set_cons_succ]
        rfl
      refine pure_ (i := 3) (N := some 39) (v := ?_) (a' := ?_) #[true, true, true, true, false, false, false, false, false, false, false, false] rfl rfl (by kernel_rfl) (fun _ _ _ h => h) (Or.inl ⟨by rfl, ?_⟩) ?_ ?_
      rotate_left
      · intro w'
        go_simp
        with_reducible rfl
      rotate_left
      · simp only [Act.put, List.setIfInBounds_toArray, List.set_cons_zero, List.set_cons_succ]
        rfl
      refine take_ (i := 4) (N := some 40) (v := ?_) (a' := ?_) #[true, true, true, true, true, false, false, false, false, false, false, false] rfl rfl (by kernel_rfl) (fun _ _ _ h => h) (Or.inl ⟨by rfl, ?_⟩) hHeld ?_ ?_
      rotate_left
      · rintro w' ⟨s0, s1, s2, s3⟩
        go_simp
        with_reducible rfl
      rotate_left
      · simp only [Act.put, List.setIfInBounds_toArray, List.set_cons_zero, List.set_cons_succ]
        rfl
      refine pure_ (i := 5) (N := some 41) (v := ?_) (a' := ?_) #[true, true, true, true, true, true, false, false, false, false, false, false] rfl rfl (by kernel_rfl) (fun _ _ _ h => h) (Or.inl ⟨by rfl, ?_⟩) ?_ ?_
      rotate_left
      · intro w'
        go_simp
        with_reducible rfl
      rotate_left
      · simp only [Act.put, List.setIfInBounds_toArray, List.set_cons_zero, List.set_cons_succ]
        rfl
      refine take_ (i := 6) (N := some 42) (v := ?_) (a' := ?_) #[true, true, true, true, true, true, true, false, false, false, false, false] rfl rfl (by kernel_rfl) (fun _ _ _ h => h) (Or.inl ⟨by rfl, ?_⟩) hHeld ?_ ?_
      rotate_left
      · rintro w' ⟨s0, s1, s2, s3⟩
        go_simp
        with_reducible rfl
      rotate_left
      · simp only [Act.put, List.setIfInBounds_toArray, List.set_cons_zero, List.set_cons_succ]
        rfl
      refine pure_ (i := 7) (N := some 43) (v := ?_) (a' := ?_) #[true, true, true, true, true, true, true, true, false, false, false, false] rfl rfl (by kernel_rfl) (fun _ _ _ h => h) (Or.inl ⟨by rfl, ?_⟩) ?_ ?_
      rotate_left
      · intro w'
        go_simp
        with_reducible rfl
      rotate_left
      · simp only [Act.put, List.setIfInBounds_toArray, List.set_cons_zero, List.set_cons_succ]
        rfl
      refine pure_ (i := 8) (N := some 44) (v := ?_) (a' := ?_) #[true, true, true, true, true, true, true, true, true, false, false, false] rfl rfl (by kernel_rfl) (fun _ _ _ h => h) (Or.inl ⟨by rfl, ?_⟩) ?_ ?_
      rotate_left
      · intro w'
        go_simp
        with_reducible rfl
      rotate_left
      · simp only [Act.put, List.setIfInBounds_toArray, List.set_cons_zero, List.set_cons_succ]
        rfl
      refine take_ (i := 9) (N := some 45) (v := ?_) (a' := ?_) #[true, true, true, true, true, true, true, true, true, true, false, false] rfl rfl (by kernel_rfl) (fun _ _ _ h => h) (Or.inl ⟨by rfl, ?_⟩) hHeld ?_ ?_
      rotate_left
      · rintro w' ⟨s0, s1, s2, s3⟩
        go_simp
        with_reducible rfl
      rotate_left
      · simp only [Act.put, List.setIfInBounds_toArray, List.set_cons_zero, List.set_cons_succ]
        rfl
      refine one_ (i := 10) (N := some 46) #[true, true, true, true, true, true, true, true, true, true, true, false] rfl rfl (by kernel_rfl) (by decide) (fun K hK => ?_)
      refine goes_ Try.func29 (by kernel_rfl) rfl #[.slice A0 y.length c0, .slice B0 y.length d0] (by rfl) rfl rfl (by simp only [List.map_toArray, List.map_cons, List.map_nil]; rfl) ?_
      refine (HY.out W HBW.out).mono ?_
      rintro e w5 ⟨rfl, hb⟩
      have HB5 : Hid (Below w.heap.size w w5) := HBX.out.trans (hb.out.mono HBX.out.size)
      have HB5' : Hid (Below wr.heap.size wr w5) := HBW.out.trans (hb.out.mono HBW.out.size)
      refine ⟨_, rfl, ?_⟩
      refine hK.out _ _ ⟨pw_cell_below hb.out hHeld.1, pw_cell_below hb.out hHeld.2.1, pw_cell_below hb.out hHeld.2.2.1, pw_cell_below hb.out hHeld.2.2.2⟩ (fun hHeld => ?_)
      clear hK K hb
      refine norm_ (a' := ?_) ?_ ?_
      rotate_left
      · show Act.put _ (some 46) _ = _
        simp only [Act.put, List.setIfInBounds_toArray, List.set_cons_zero, List.set_cons_succ]
        rfl
      refine pure_ (i := 11) (N := some 47) (v := ?_) (a' := ?_) #[true, true, true, true, true, true, true, true, true, true, true, true] rfl rfl (by kernel_rfl) (fun _ _ _ h => h) (Or.inl ⟨by rfl, ?_⟩) ?_ ?_
      rotate_left
      · intro w'
        go_simp
        with_reducible rfl
      rotate_left
      · simp only [Act.put, List.setIfInBounds_toArray, List.set_cons_zero, List.set_cons_succ]
        rfl
      refine done_ (by kernel_rfl) ?_
      go_wp2
      go_roundw
      case rel => exact ⟨k + 1, by omega, by go_num, HB5, Lib.hid ((HB5'.out.block _ (blk_lt Ck.out)).trans Ck.out), Lib.hid ((HB5'.out.block _ (blk_lt Dk.out)).trans Dk.out)⟩
      case measure => simp [intOf]; omega
    · go_wp2
      go_ret
      exact ⟨rfl, HB⟩

end Go.Proofs.Ytcbaiplamaopeaa.PPostShots
