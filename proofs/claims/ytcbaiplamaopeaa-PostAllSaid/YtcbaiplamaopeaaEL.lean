/- sameShot of two that are the same. -/
import Derived.Test.YtcbaiplamaopeaaEB
import Derived.Test.YtcbaiplamaopeaaSX
namespace Go.Proofs.Ytcbaiplamaopeaa.PPostShots
open Go.RowKit Go.Conc Go.Proofs.YtcbaiplamaopeaaW.PrintWords Go.Proofs.YtcbaiplamaopeaaW.PrintLast Go.Proofs.Ytcbaiplamaopeaa.PPost
set_option linter.unusedVariables false
set_option linter.unusedSimpArgs false

theorem loops_small {y : S83} {l : List S83} (h : partsRs l ≤ 100000) (hy : y ∈ l) : y.f2.length ≤ 1000000 := by
  have h1 := partsRs_mem hy
  have h2 : y.f2.length ≤ partsR y := by unfold partsR; omega
  omega
/-- samePart of a part with itself, by its size. -/
theorem same13' (y : S40) (A1 : Option Addr) (c1 : Nat) (A2 : Option Addr) (c2 : Nat) (A3 : Option Addr) (c3 : Nat) (B1 : Option Addr) (d1 : Nat) (B2 : Option Addr) (d2 : Nat) (B3 : Option Addr) (d3 : Nat) (w : World) (hp : partsP y ≤ 100000)
    (hA1 : Kd.C k103 w A1 y.f0.f1.length y.f0.f1) (hA2 : Kd.C (Kd.slice 83 k83) w A2 y.f1.length y.f1) (hA3 : Kd.C k83 w A3 y.f2.length y.f2) (hB1 : Kd.C k103 w B1 y.f0.f1.length y.f0.f1) (hB2 : Kd.C (Kd.slice 83 k83) w B2 y.f1.length y.f1) (hB3 : Kd.C k83 w B3 y.f2.length y.f2) (hc1 : y.f0.f1.length ≤ c1) (hd1 : y.f0.f1.length ≤ d1) :
    Calls Try.prog 13 #[.agg #[.int .i64 y.f0.f0, .slice A1 y.f0.f1.length c1, .slice A2 y.f1.length c2, .slice A3 y.f2.length c3], .agg #[.int .i64 y.f0.f0, .slice B1 y.f0.f1.length d1, .slice B2 y.f1.length d2, .slice B3 y.f2.length d3]] w fun e w' => Yes w e w' :=
  same13 y.f0 y.f1 y.f2 A1 c1 A2 c2 A3 c3 B1 d1 B2 d2 B3 d3 w hA1 hA2 hA3 hB1 hB2 hB3 hc1 hd1 (by unfold partsP at hp; omega) (fun z hz => loops_small (by unfold partsP at hp; omega) hz) (fun z hz x hx => loops_small (by have := partsLs_mem hz; unfold partsP at hp; omega) hx)
set_option maxRecDepth 100000 in
set_option maxHeartbeats 4000000 in
theorem same38 (id sum : Int) (l : List S40) (A : Option Addr) (c : Nat) (B : Option Addr) (d : Nat) (w : World) (hA : Kd.C k40 w A l.length l) (hB : Kd.C k40 w B l.length l) (hp : ∀ x ∈ l, partsP x ≤ 100000) :
    Calls Try.prog 38 #[.agg #[.int .i64 id, .int .u32 sum, .slice A l.length c], .agg #[.int .i64 id, .int .u32 sum, .slice B l.length d]] w fun e w' => Yes w e w' := by
  obtain ⟨n, hn⟩ : ∃ n, n = l.length := ⟨_, rfl⟩
  have hmx : n ≤ 9223372036854775807 := by rw [hn]; exact Kd.C_max hA
  have HA := Lib.hid hA
  have HBd := Lib.hid hB
  have Hn := Lib.hid hn
  have HP := Lib.hid hp
  have HB0 : Hid (Below w.heap.size w ((w.alloc (.cells #[.int .i64 id, .int .u32 sum, .slice A n c] 44)).alloc (.cells #[.int .i64 id, .int .u32 sum, .slice B n d] 44))) := ((Below.refl _ _).alloc (Nat.le_refl _) _).alloc (by simp) _
  have HC0 : Hid ((((w.alloc (.cells #[.int .i64 id, .int .u32 sum, .slice A n c] 44)).alloc (.cells #[.int .i64 id, .int .u32 sum, .slice B n d] 44))).heap[w.heap.size]? = some (.cells #[.int .i64 id, .int .u32 sum, .slice A n c] 44 (0, 0))) := blk_alloc (blk_new w _) _
  have HD0 : Hid ((((w.alloc (.cells #[.int .i64 id, .int .u32 sum, .slice A n c] 44)).alloc (.cells #[.int .i64 id, .int .u32 sum, .slice B n d] 44))).heap[w.heap.size + 1]? = some (.cells #[.int .i64 id, .int .u32 sum, .slice B n d] 44 (0, 0))) := by
    have := blk_new (w.alloc (.cells #[.int .i64 id, .int .u32 sum, .slice A n c] 44)) (.cells #[.int .i64 id, .int .u32 sum, .slice B n d] 44)
    simp only [World.size_alloc] at this
    exact this
  rw [← hn]
  clear hA hB hp hn
  go_enter Try.func38, Try.ntmps38
  go_wp2_with (fail)
  go_loopw [5] (fun v5 wr => ∃ k : Nat, k ≤ n ∧ v5 = .int .i64 k ∧ Hid (Below w.heap.size w wr) ∧ Hid (wr.heap[w.heap.size]? = some (.cells #[.int .i64 id, .int .u32 sum, .slice A n c] 44 (0, 0))) ∧ Hid (wr.heap[w.heap.size + 1]? = some (.cells #[.int .i64 id, .int .u32 sum, .slice B n d] 44 (0, 0)))) (fun v5 _ => n - (intOf v5).toNat)
  case atStart => exact ⟨0, Nat.zero_le _, rfl, HB0, HC0, HD0⟩
  case round =>
    clear HB0 HC0 HD0
    obtain ⟨k, hk, rfl, HB, HC, HD⟩ := hrel
    have q2 := blk_at HC.out 2 rfl
    have p2 := blk_at HD.out 2 rfl
    by_cases hlt : k < n
    · obtain ⟨ad, A1, c1, A2, c2, A3, c3, rfl, e0, e1, e2, e3, l1, g1, l2, g2, l3, g3⟩ := at_T40 HA.out (k : Int) (by omega) (by rw [← Hn.out]; omega)
      obtain ⟨bd, B1, d1, B2, d2, B3, d3, rfl, f0, f1, f2, f3, m1, k1, m2, k2, m3, k3⟩ := at_T40 HBd.out (k : Int) (by omega) (by rw [← Hn.out]; omega)
      have hmem : rd_T40 l (k : Int) ∈ l := getD_mem _ _ _ (by rw [Int.toNat_natCast, ← Hn.out]; exact hlt)
      generalize rd_T40 l (k : Int) = y at *
      rw [Int.toNat_natCast] at e0 f0 e1 f1 e2 f2 e3 f3
      replace e0 := pw_cell_below HB.out e0
      replace e1 := pw_cell_below HB.out e1
      replace e2 := pw_cell_below HB.out e2
      replace e3 := pw_cell_below HB.out e3
      replace f0 := pw_cell_below HB.out f0
      replace f1 := pw_cell_below HB.out f1
      replace f2 := pw_cell_below HB.out f2
      replace f3 := pw_cell_below HB.out f3
      have HY : Hid (∀ W, Below wr.heap.size wr W → Calls Try.prog 13 #[.agg #[.int .i64 y.f0.f0, .slice A1 y.f0.f1.length c1, .slice A2 y.f1.length c2, .slice A3 y.f2.length c3], .agg #[.int .i64 y.f0.f0, .slice B1 y.f0.f1.length d1, .slice B2 y.f1.length d2, .slice B3 y.f2.length d3]] W fun e w' => Yes W e w') := Lib.hid (fun W hW => by
        have hW' := HB.out.trans (hW.mono HB.out.size)
        exact same13' y A1 c1 A2 c2 A3 c3 B1 d1 B2 d2 B3 d3 W (HP.out y hmem) (Kd.C_below g1 hW') (Kd.C_below g2 hW') (Kd.C_below g3 hW') (Kd.C_below k1 hW') (Kd.C_below k2 hW') (Kd.C_below k3 hW') l1 m1)
      clear l1 g1 l2 g2 l3 g3 m1 k1 m2 k2 m3 k3 hmem
      go_upto_region 6 with (fail)
      refine start_ (n := 12) (S := (fun w' => w'.cell? ⟨w.heap.size, 2, none⟩ = some (.slice (some ad) n c) ∧ w'.cell? ⟨w.heap.size + 1, 2, none⟩ = some (.slice (some bd) n d) ∧ w'.cell? (ad.add (k * 4)) = some (.int .i64 y.f0.f0) ∧ w'.cell? ⟨(ad.add (k * 4)).block, (ad.add (k * 4)).off + 1, none⟩ = some (.slice A1 y.f0.f1.length c1) ∧ w'.cell? ⟨(ad.add (k * 4)).block, (ad.add (k * 4)).off + 2, none⟩ = some (.slice A2 y.f1.length c2) ∧ w'.cell? ⟨(ad.add (k * 4)).block, (ad.add (k * 4)).off + 3, none⟩ = some (.slice A3 y.f2.length c3) ∧ w'.cell? (bd.add (k * 4)) = some (.int .i64 y.f0.f0) ∧ w'.cell? ⟨(bd.add (k * 4)).block, (bd.add (k * 4)).off + 1, none⟩ = some (.slice B1 y.f0.f1.length d1) ∧ w'.cell? ⟨(bd.add (k * 4)).block, (bd.add (k * 4)).off + 2, none⟩ = some (.slice B2 y.f1.length d2) ∧ w'.cell? ⟨(bd.add (k * 4)).block, (bd.add (k * 4)).off + 3, none⟩ = some (.slice B3 y.f2.length d3))) (ds := []) #[false, false, false, false, false, false, false, false, false, false, false, false] (by kernel_rfl) rfl rfl ⟨(show wr.drew.cell? _ = _ from q2), (show wr.drew.cell? _ = _ from p2), (show wr.drew.cell? _ = _ from e0), (show wr.drew.cell? _ = _ from e1), (show wr.drew.cell? _ = _ from e2), (show wr.drew.cell? _ = _ from e3), (show wr.drew.cell? _ = _ from f0), (show wr.drew.cell? _ = _ from f1), (show wr.drew.cell? _ = _ from f2), (show wr.drew.cell? _ = _ from f3)⟩ (fun hHeld => ?_)
      have HBW : Hid (Below wr.heap.size wr wr.drew) := (Below.refl _ _).drew
      have HBX : Hid (Below w.heap.size w wr.drew) := HB.out.drew
      generalize wr.drew = W at hHeld HBW HBX ⊢
      refine pure_ (i := 0) (N := some 34) (v := ?_) (a' := ?_) #[true, false, false, false, false, false, false, false, false, false, false, false] rfl rfl (by kernel_rfl) (fun _ _ _ h => h) (Or.inl ⟨by rfl, ?_⟩) ?_ ?_
      rotate_left
      · intro w'
        go_simp
        with_reducible rfl
      rotate_left
      · simp only [Act.put, List.setIfInBounds_toArray, List.set_cons_zero, List.set_cons_succ]
        rfl
      refine take_ (i := 1) (N := some 35) (v := ?_) (a' := ?_) #[true, true, false, false, false, false, false, false, false, false, false, false] rfl rfl (by kernel_rfl) (fun _ _ _ h => h) (Or.inl ⟨by rfl, ?_⟩) hHeld ?_ ?_
      rotate_left
      · rintro w' ⟨s0, s1, s2, s3, s4, s5, s6, s7, s8, s9⟩
        go_simp
        with_reducible rfl
      rotate_left
      · simp only [Act.put, List.setIfInBounds_toArray, List.set_cons_zero, List.set_cons_succ]
        rfl
      refine pure_ (i := 2) (N := some 36) (v := ?_) (a' := ?_) #[true, true, true, false, false, false, false, false, false, false, false, false] rfl rfl (by kernel_rfl) (fun _ _ _ h => h) (Or.inl ⟨by rfl, ?_⟩) ?_ ?_
      rotate_left
      · intro w'
        go_simp
        with_reducible rfl
      rotate_left
      · simp only [Act.put, List.setIfInBounds_toArray, List.set_cons_zero, List.set_cons_succ]
        rfl
      refine pure_ (i := 3) (N := some 37) (v := ?_) (a' := ?_) #[true, true, true, true, false, false, false, false, false, false, false, false] rfl rfl (by kernel_rfl) (fun _ _ _ h => h) (Or.inl ⟨by rfl, ?_⟩) ?_ ?_
      rotate_left
      · intro w'
        go_simp
        with_reducible rfl
      rotate_left
      · simp only [Act.put, List.setIfInBounds_toArray, List.set_cons_zero, List.set_cons_succ]
        rfl
      refine take_ (i := 4) (N := some 38) (v := ?_) (a' := ?_) #[true, true, true, true, true, false, false, false, false, false, false, false] rfl rfl (by kernel_rfl) (fun _ _ _ h => h) (Or.inl ⟨by rfl, ?_⟩) hHeld ?_ ?_
      rotate_left
      · rintro w' ⟨s0, s1, s2, s3, s4, s5, s6, s7, s8, s9⟩
        go_simp
        with_reducible rfl
      rotate_left
      · simp only [Act.put, List.setIfInBounds_toArray, List.set_cons_zero, List.set_cons_succ]
        rfl
      refine pure_ (i := 5) (N := some 39) (v := ?_) (a' := ?_) #[true, true, true, true, true, true, false, false, false, false, false, false] rfl rfl (by kernel_rfl) (fun _ _ _ h => h) (Or.inl ⟨by rfl, ?_⟩) ?_ ?_
      rotate_left
      · intro w'
        go_simp
        with_reducible rfl
      rotate_left
      · simp only [Act.put, List.setIfInBounds_toArray, List.set_cons_zero, List.set_cons_succ]
        rfl
      refine take_ (i := 6) (N := some 40) (v := ?_) (a' := ?_) #[true, true, true, true, true, true, true, false, false, false, false, false] rfl rfl (by kernel_rfl) (fun _ _ _ h => h) (Or.inl ⟨by rfl, ?_⟩) hHeld ?_ ?_
      rotate_left
      · rintro w' ⟨s0, s1, s2, s3, s4, s5, s6, s7, s8, s9⟩
        go_simp
        with_reducible rfl
      rotate_left
      · simp only [Act.put, List.setIfInBounds_toArray, List.set_cons_zero, List.set_cons_succ]
        rfl
      refine pure_ (i := 7) (N := some 41) (v := ?_) (a' := ?_) #[true, true, true, true, true, true, true, true, false, false, false, false] rfl rfl (by kernel_rfl) (fun _ _ _ h => h) (Or.inl ⟨by rfl, ?_⟩) ?_ ?_
      rotate_left
      · intro w'
        go_simp
        with_reducible rfl
      rotate_left
      · simp only [Act.put, List.setIfInBounds_toArray, List.set_cons_zero, List.set_cons_succ]
        rfl
      refine pure_ (i := 8) (N := some 42) (v := ?_) (a' := ?_) #[true, true, true, true, true, true, true, true, true, false, false, false] rfl rfl (by kernel_rfl) (fun _ _ _ h => h) (Or.inl ⟨by rfl, ?_⟩) ?_ ?_
      rotate_left
      · intro w'
        go_simp
        with_reducible rfl
      rotate_left
      · simp only [Act.put, List.setIfInBounds_toArray, List.set_cons_zero, List.set_cons_succ]
        rfl
      refine take_ (i := 9) (N := some 43) (v := ?_) (a' := ?_) #[true, true, true, true, true, true, true, true, true, true, false, false] rfl rfl (by kernel_rfl) (fun _ _ _ h => h) (Or.inl ⟨by rfl, ?_⟩) hHeld ?_ ?_
      rotate_left
      · rintro w' ⟨s0, s1, s2, s3, s4, s5, s6, s7, s8, s9⟩
        go_simp
        with_reducible rfl
      rotate_left
      · simp only [Act.put, List.setIfInBounds_toArray, List.set_cons_zero, List.set_cons_succ]
        rfl
      refine one_ (i := 10) (N := some 44) #[true, true, true, true, true, true, true, true, true, true, true, false] rfl rfl (by kernel_rfl) (by decide) (fun K hK => ?_)
      refine goes_ Try.func13 (by kernel_rfl) rfl #[.agg #[.int .i64 y.f0.f0, .slice A1 y.f0.f1.length c1, .slice A2 y.f1.length c2, .slice A3 y.f2.length c3], .agg #[.int .i64 y.f0.f0, .slice B1 y.f0.f1.length d1, .slice B2 y.f1.length d2, .slice B3 y.f2.length d3]] (by rfl) rfl rfl (by simp only [List.map_toArray, List.map_cons, List.map_nil]; rfl) ?_
      refine (HY.out W HBW.out).mono ?_
      rintro e w5 ⟨rfl, hb⟩
      have HB5 : Hid (Below w.heap.size w w5) := HBX.out.trans (hb.out.mono HBX.out.size)
      have HB5' : Hid (Below wr.heap.size wr w5) := HBW.out.trans (hb.out.mono HBW.out.size)
      refine ⟨_, rfl, ?_⟩
      refine hK.out _ _ ⟨pw_cell_below hb.out hHeld.1, pw_cell_below hb.out hHeld.2.1, pw_cell_below hb.out hHeld.2.2.1, pw_cell_below hb.out hHeld.2.2.2.1, pw_cell_below hb.out hHeld.2.2.2.2.1, pw_cell_below hb.out hHeld.2.2.2.2.2.1, pw_cell_below hb.out hHeld.2.2.2.2.2.2.1, pw_cell_below hb.out hHeld.2.2.2.2.2.2.2.1, pw_cell_below hb.out hHeld.2.2.2.2.2.2.2.2.1, pw_cell_below hb.out hHeld.2.2.2.2.2.2.2.2.2⟩ (fun hHeld => ?_)
      clear hK K hb
      refine norm_ (a' := ?_) ?_ ?_
      rotate_left
      · show Act.put _ (some 44) _ = _
        simp only [Act.put, List.setIfInBounds_toArray, List.set_cons_zero, List.set_cons_succ]
        rfl
      refine pure_ (i := 11) (N := some 45) (v := ?_) (a' := ?_) #[true, true, true, true, true, true, true, true, true, true, true, true] rfl rfl (by kernel_rfl) (fun _ _ _ h => h) (Or.inl ⟨by rfl, ?_⟩) ?_ ?_
      rotate_left
      · intro w'
        go_simp
        with_reducible rfl
      rotate_left
      · simp only [Act.put, List.setIfInBounds_toArray, List.set_cons_zero, List.set_cons_succ]
        rfl
      refine done_ (by kernel_rfl) ?_
      go_wp2_with (fail)
      go_roundw
      case rel => exact ⟨k + 1, by omega, by go_num, HB5, Lib.hid (blk_below HC.out HB5'.out), Lib.hid (blk_below HD.out HB5'.out)⟩
      case measure => simp [intOf]; omega
    · go_wp2_with (fail)
      go_ret
      exact ⟨rfl, HB⟩
end Go.Proofs.Ytcbaiplamaopeaa.PPostShots
