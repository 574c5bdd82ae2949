/- The statement's comparisons: of two that are the same they say yes. -/
import Derived.Test.YtomfknblehkocaaT
namespace Go.Proofs.Ytomfknblehkocaa.C
open Go.RowKit Go.Proofs.YtomfknblehkocaaW.PrintWords Go.Proofs.YtomfknblehkocaaW.PrintLast
set_option linter.unusedVariables false
set_option linter.unusedSimpArgs false
def Yes (w : World) (e : Ending) (w' : World) : Prop := e = .returned (.bool true) ∧ Hid (Below w.heap.size w w')
theorem getD_mem' {α : Type} (l : List α) (z : α) (k : Nat) (h : k < l.length) : l.getD k z ∈ l := by
  rw [List.getD_eq_getElem?_getD, List.getElem?_eq_getElem h]
  exact List.getElem_mem _
theorem ints_get {w : World} {A : Option Addr} {xs : List Int} (h : Kd.C (Kd.int .i64) w A xs.length xs) (i : Nat) (hi : i < xs.length) : ∃ ad, A = some ad ∧ w.cell? (ad.add i) = some (.int .i64 (xs.getD i 0)) := by
  obtain ⟨ad, c, e, hl, hk, hc⟩ := Kd.C_get h 0 (i : Int) (by omega) (by omega)
  have hk' : c = [.int .i64 (xs.getD (i : Int).toNat 0)] := hk
  rw [Int.toNat_natCast] at hk' hc
  refine ⟨ad, e, ?_⟩
  have := hc 0 (.int .i64 (xs.getD i 0)) (by rw [hk']; rfl)
  simpa [Kd.int, Kd.scalar] using this

set_option maxRecDepth 100000 in
set_option maxHeartbeats 4000000 in
theorem same59 : ∀ (N : Nat) (x : S42), SizeOf.sizeOf x < N → ∀ (A : Option Addr) (c : Nat) (B : Option Addr) (d : Nat) (w : World), Kd.C k42 w A x.f3.length x.f3 → x.f3.length ≤ c → Kd.C k42 w B x.f3.length x.f3 → x.f3.length ≤ d →
    Calls Try.prog 59 #[.agg #[.int .i64 x.f0, .int .i64 x.f1, .string x.f2, .slice A x.f3.length c], .agg #[.int .i64 x.f0, .int .i64 x.f1, .string x.f2, .slice B x.f3.length d]] w fun e w' => Yes w e w' := by
  intro N
  induction N with
  | zero => intro x h; cases x; simp at h
  | succ N ih =>
    intro x hN A c B d w hA hc hB hd
    obtain ⟨n, hn⟩ : ∃ n, n = x.f3.length := ⟨_, rfl⟩
    have hmx : n ≤ 9223372036854775807 := by rw [hn]; exact Kd.C_max hA
    have HA := Lib.hid hA
    have HBb := Lib.hid hB
    have Hn := Lib.hid hn
    have IH := Lib.hid ih
    have HN := Lib.hid hN
    clear hA hB hc hd ih hN
    rw [← hn]
    clear hn
    go_enter Try.func59, Try.ntmps59
    go_wp2
    go_loopw [5] (fun v5 wr => ∃ k : Nat, k ≤ n ∧ v5 = .int .i64 k ∧ Hid (Below w.heap.size w wr) ∧ Hid (wr.heap[w.heap.size]? = some (.cells #[.int .i64 x.f0, .int .i64 x.f1, .string x.f2, .slice A n c] 42 (0, 0))) ∧ Hid (wr.heap[w.heap.size + 1]? = some (.cells #[.int .i64 x.f0, .int .i64 x.f1, .string x.f2, .slice B n d] 42 (0, 0)))) (fun v5 _ => n - (intOf v5).toNat)
    case atStart =>
      refine ⟨0, Nat.zero_le _, rfl, ?_, ?_, ?_⟩
      · exact Lib.hid (((Below.refl _ _).alloc (Nat.le_refl _) _).alloc (by simp) _)
      · exact Lib.hid (blk_alloc (blk_new w _) _)
      · have := blk_new (w.alloc (.cells #[.int .i64 x.f0, .int .i64 x.f1, .string x.f2, .slice A n c] 42)) (.cells #[.int .i64 x.f0, .int .i64 x.f1, .string x.f2, .slice B n d] 42)
        simp only [World.size_alloc] at this
        exact this
    case round =>
      obtain ⟨k, hk, rfl, HB, Ck, Dk⟩ := hrel
      have c3 : wr.cell? ⟨w.heap.size, 3, none⟩ = some (.slice A n c) := blk_at Ck.out 3 rfl
      have d3 : wr.cell? ⟨w.heap.size + 1, 3, none⟩ = some (.slice B n d) := blk_at Dk.out 3 rfl
      by_cases hlt : k < n
      · obtain ⟨ad, A3, cc, rfl, e0, e1, e2, e3, hl3, hC3⟩ := at_T42 HA.out (k : Int) (by omega) (by rw [← Hn.out]; omega)
        obtain ⟨bd, B3, cd, rfl, f0, f1, f2, f3, hm3, hD3⟩ := at_T42 HBb.out (k : Int) (by omega) (by rw [← Hn.out]; omega)
        have hmem : rd_T42 x.f3 (k : Int) ∈ x.f3 := getD_mem' _ _ _ (by rw [Int.toNat_natCast, ← Hn.out]; exact hlt)
        generalize rd_T42 x.f3 (k : Int) = y at *
        rw [Int.toNat_natCast] at e0 e1 e2 e3 f0 f1 f2 f3
        replace e0 := (HB.out.cell (World.block_lt_of_cell? w _ e0)).trans e0
        replace e1 := (HB.out.cell (World.block_lt_of_cell? w _ e1)).trans e1
        replace e2 := (HB.out.cell (World.block_lt_of_cell? w _ e2)).trans e2
        replace e3 := (HB.out.cell (World.block_lt_of_cell? w _ e3)).trans e3
        replace f0 := (HB.out.cell (World.block_lt_of_cell? w _ f0)).trans f0
        replace f1 := (HB.out.cell (World.block_lt_of_cell? w _ f1)).trans f1
        replace f2 := (HB.out.cell (World.block_lt_of_cell? w _ f2)).trans f2
        replace f3 := (HB.out.cell (World.block_lt_of_cell? w _ f3)).trans f3
        have HY : Hid (∀ W, Below wr.heap.size wr W → Calls Try.prog 59 #[.agg #[.int .i64 y.f0, .int .i64 y.f1, .string y.f2, .slice A3 y.f3.length cc], .agg #[.int .i64 y.f0, .int .i64 y.f1, .string y.f2, .slice B3 y.f3.length cd]] W fun e w' => Yes W e w') := fun W hW =>
          IH.out y (by have := S42.size_mem hmem; have := HN.out; omega) A3 cc B3 cd W (Kd.C_below hC3 (HB.out.trans (hW.mono HB.out.size))) hl3 (Kd.C_below hD3 (HB.out.trans (hW.mono HB.out.size))) hm3
        clear hmem hC3 hl3 hD3 hm3
        go_wp2
        refine start_ (n := 12) (S := (fun w' => w'.cell? ⟨w.heap.size, 3, none⟩ = some (.slice (some ad) n c) ∧ w'.cell? ⟨w.heap.size + 1, 3, none⟩ = some (.slice (some bd) n d) ∧ w'.cell? (ad.add (k * 4)) = some (.int .i64 y.f0) ∧ w'.cell? ⟨(ad.add (k * 4)).block, (ad.add (k * 4)).off + 1, none⟩ = some (.int .i64 y.f1) ∧ w'.cell? ⟨(ad.add (k * 4)).block, (ad.add (k * 4)).off + 2, none⟩ = some (.string y.f2) ∧ w'.cell? ⟨(ad.add (k * 4)).block, (ad.add (k * 4)).off + 3, none⟩ = some (.slice A3 y.f3.length cc) ∧ w'.cell? (bd.add (k * 4)) = some (.int .i64 y.f0) ∧ w'.cell? ⟨(bd.add (k * 4)).block, (bd.add (k * 4)).off + 1, none⟩ = some (.int .i64 y.f1) ∧ w'.cell? ⟨(bd.add (k * 4)).block, (bd.add (k * 4)).off + 2, none⟩ = some (.string y.f2) ∧ w'.cell? ⟨(bd.add (k * 4)).block, (bd.add (k * 4)).off + 3, none⟩ = some (.slice B3 y.f3.length cd))) (ds := []) #[false, false, false, false, false, false, false, false, false, false, false, false] (by kernel_rfl) rfl rfl ⟨c3, d3, e0, e1, e2, e3, f0, f1, f2, f3⟩ (fun hHeld => ?_)
        have HBW : Hid (Below wr.heap.size wr wr.drew) := (Below.refl _ _).drew
        have HBX : Hid (Below w.heap.size w wr.drew) := HB.out.drew
        generalize wr.drew = W at hHeld HBW HBX ⊢
        refine pure_ (i := 0) (N := some 41) (v := ?_) (a' := ?_) #[true, false, false, false, false, false, false, false, false, false, false, false] rfl rfl (by kernel_rfl) (fun _ _ _ h => h) (Or.inl ⟨by rfl, ?_⟩) ?_ ?_
        rotate_left
        · intro w'
          go_simp
          with_reducible rfl
        rotate_left
        · simp only [Act.put, List.setIfInBounds_toArray, List.set_cons_zero, List.set_cons_succ]
          rfl
        refine take_ (i := 1) (N := some 42) (v := ?_) (a' := ?_) #[true, true, false, false, false, false, false, false, false, false, false, false] rfl rfl (by kernel_rfl) (fun _ _ _ h => h) (Or.inl ⟨by rfl, ?_⟩) hHeld ?_ ?_
        rotate_left
        · rintro w' ⟨s0, s1, s2, s3, s4, s5, s6, s7, s8, s9⟩
          go_simp
          with_reducible rfl
        rotate_left
        · simp only [Act.put, List.setIfInBounds_toArray, List.set_cons_zero, List.set_cons_succ]
          rfl
        refine pure_ (i := 2) (N := some 43) (v := ?_) (a' := ?_) #[true, true, true, false, false, false, false, false, false, false, false, false] rfl rfl (by kernel_rfl) (fun _ _ _ h => h) (Or.inl ⟨by rfl, ?_⟩) ?_ ?_
        rotate_left
        · intro w'
          go_simp
          with_reducible rfl
        rotate_left
        · simp only [Act.put, List.setIfInBounds_toArray, List.set_cons_zero, List.set_cons_succ]
          rfl
        refine pure_ (i := 3) (N := some 44) (v := ?_) (a' := ?_) #[true, true, true, true, false, false, false, false, false, false, false, false] rfl rfl (by kernel_rfl) (fun _ _ _ h => h) (Or.inl ⟨by rfl, ?_⟩) ?_ ?_
        rotate_left
        · intro w'
          go_simp
          with_reducible rfl
        rotate_left
        · simp only [Act.put, List.setIfInBounds_toArray, List.set_cons_zero, List.set_cons_succ]
          rfl
        refine take_ (i := 4) (N := some 45) (v := ?_) (a' := ?_) #[true, true, true, true, true, false, false, false, false, false, false, false] rfl rfl (by kernel_rfl) (fun _ _ _ h => h) (Or.inl ⟨by rfl, ?_⟩) hHeld ?_ ?_
        rotate_left
        · rintro w' ⟨s0, s1, s2, s3, s4, s5, s6, s7, s8, s9⟩
          go_simp
          with_reducible rfl
        rotate_left
        · simp only [Act.put, List.setIfInBounds_toArray, List.set_cons_zero, List.set_cons_succ]
          rfl
        refine pure_ (i := 5) (N := some 46) (v := ?_) (a' := ?_) #[true, true, true, true, true, true, false, false, false, false, false, false] rfl rfl (by kernel_rfl) (fun _ _ _ h => h) (Or.inl ⟨by rfl, ?_⟩) ?_ ?_
        rotate_left
        · intro w'
          go_simp
          with_reducible rfl
        rotate_left
        · simp only [Act.put, List.setIfInBounds_toArray, List.set_cons_zero, List.set_cons_succ]
          rfl
        refine take_ (i := 6) (N := some 47) (v := ?_) (a' := ?_) #[true, true, true, true, true, true, true, false, false, false, false, false] rfl rfl (by kernel_rfl) (fun _ _ _ h => h) (Or.inl ⟨by rfl, ?_⟩) hHeld ?_ ?_
        rotate_left
        · rintro w' ⟨s0, s1, s2, s3, s4, s5, s6, s7, s8, s9⟩
          go_simp
          with_reducible rfl
        rotate_left
        · simp only [Act.put, List.setIfInBounds_toArray, List.set_cons_zero, List.set_cons_succ]
          rfl
        refine pure_ (i := 7) (N := some 48) (v := ?_) (a' := ?_) #[true, true, true, true, true, true, true, true, false, false, false, false] rfl rfl (by kernel_rfl) (fun _ _ _ h => h) (Or.inl ⟨by rfl, ?_⟩) ?_ ?_
        rotate_left
        · intro w'
          go_simp
          with_reducible rfl
        rotate_left
        · simp only [Act.put, List.setIfInBounds_toArray, List.set_cons_zero, List.set_cons_succ]
          rfl
        refine pure_ (i := 8) (N := some 49) (v := ?_) (a' := ?_) #[true, true, true, true, true, true, true, true, true, false, false, false] rfl rfl (by kernel_rfl) (fun _ _ _ h => h) (Or.inl ⟨by rfl, ?_⟩) ?_ ?_
        rotate_left
        · intro w'
          go_simp
          with_reducible rfl
        rotate_left
        · simp only [Act.put, List.setIfInBounds_toArray, List.set_cons_zero, List.set_cons_succ]
          rfl
        refine take_ (i := 9) (N := some 50) (v := ?_) (a' := ?_) #[true, true, true, true, true, true, true, true, true, true, false, false] rfl rfl (by kernel_rfl) (fun _ _ _ h => h) (Or.inl ⟨by rfl, ?_⟩) hHeld ?_ ?_
        rotate_left
        · rintro w' ⟨s0, s1, s2, s3, s4, s5, s6, s7, s8, s9⟩
          go_simp
          with_reducible rfl
        rotate_left
        · simp only [Act.put, List.setIfInBounds_toArray, List.set_cons_zero, List.set_cons_succ]
          rfl
        refine one_ (i := 10) (N := some 51) #[true, true, true, true, true, true, true, true, true, true, true, false] rfl rfl (by kernel_rfl) (by decide) (fun K hK => ?_)
        refine goes_ Try.func59 (by kernel_rfl) rfl #[.agg #[.int .i64 y.f0, .int .i64 y.f1, .string y.f2, .slice A3 y.f3.length cc], .agg #[.int .i64 y.f0, .int .i64 y.f1, .string y.f2, .slice B3 y.f3.length cd]] (by rfl) rfl rfl (by simp only [List.map_toArray, List.map_cons, List.map_nil]; rfl) ?_
        refine (HY.out W HBW.out).mono ?_
        rintro e w5 ⟨rfl, hb⟩
        have HB5 : Hid (Below w.heap.size w w5) := HBX.out.trans (hb.out.mono HBX.out.size)
        have HB5' : Hid (Below wr.heap.size wr w5) := HBW.out.trans (hb.out.mono HBW.out.size)
        refine ⟨_, rfl, ?_⟩
        refine hK.out _ _ ⟨pw_cell_below hb.out hHeld.1, pw_cell_below hb.out hHeld.2.1, pw_cell_below hb.out hHeld.2.2.1, pw_cell_below hb.out hHeld.2.2.2.1, pw_cell_below hb.out hHeld.2.2.2.2.1, pw_cell_below hb.out hHeld.2.2.2.2.2.1, pw_cell_below hb.out hHeld.2.2.2.2.2.2.1, pw_cell_below hb.out hHeld.2.2.2.2.2.2.2.1, pw_cell_below hb.out hHeld.2.2.2.2.2.2.2.2.1, pw_cell_below hb.out hHeld.2.2.2.2.2.2.2.2.2⟩ (fun hHeld => ?_)
        clear hK K hb
        refine norm_ (a' := ?_) ?_ ?_
        rotate_left
        · show Act.put _ (some 51) _ = _
          simp only [Act.put, List.setIfInBounds_toArray, List.set_cons_zero, List.set_cons_succ]
          rfl
        refine pure_ (i := 11) (N := some 52) (v := ?_) (a' := ?_) #[true, true, true, true, true, true, true, true, true, true, true, true] rfl rfl (by kernel_rfl) (fun _ _ _ h => h) (Or.inl ⟨by rfl, ?_⟩) ?_ ?_
        rotate_left
        · intro w'
          go_simp
          with_reducible rfl
        rotate_left
        · simp only [Act.put, List.setIfInBounds_toArray, List.set_cons_zero, List.set_cons_succ]
          rfl
        refine done_ (by kernel_rfl) ?_
        go_wp2
        go_roundw
        case rel => exact ⟨k + 1, by omega, by go_num, HB5, Lib.hid ((HB5'.out.block _ (blk_lt Ck.out)).trans Ck.out), Lib.hid ((HB5'.out.block _ (blk_lt Dk.out)).trans Dk.out)⟩
        case measure => simp [intOf]; omega
      · go_wp2
        go_ret
        exact ⟨rfl, HB⟩

set_option maxRecDepth 100000 in
set_option maxHeartbeats 4000000 in
theorem same60 (x : S45) (A : Option Addr) (c : Nat) (B : Option Addr) (d : Nat) (A2 : Option Addr) (c2 : Nat) (B2 : Option Addr) (d2 : Nat) (w : World) (hA : Kd.C k42 w A x.f1.f3.length x.f1.f3) (hc : x.f1.f3.length ≤ c) (hB : Kd.C (Kd.int .i64) w B x.f2.length x.f2) (hd : x.f2.length ≤ d)
    (hA2 : Kd.C k42 w A2 x.f1.f3.length x.f1.f3) (hc2 : x.f1.f3.length ≤ c2) (hB2 : Kd.C (Kd.int .i64) w B2 x.f2.length x.f2) (hd2 : x.f2.length ≤ d2) :
    Calls Try.prog 60 #[.agg #[.string x.f0, .int .i64 x.f1.f0, .int .i64 x.f1.f1, .string x.f1.f2, .slice A x.f1.f3.length c, .slice B x.f2.length d], .agg #[.string x.f0, .int .i64 x.f1.f0, .int .i64 x.f1.f1, .string x.f1.f2, .slice A2 x.f1.f3.length c2, .slice B2 x.f2.length d2]] w fun e w' => Yes w e w' := by
  obtain ⟨n, hn⟩ : ∃ n, n = x.f2.length := ⟨_, rfl⟩
  have hmx : n ≤ 9223372036854775807 := by rw [hn]; exact Kd.C_max hB
  have HBb := Lib.hid hB
  have HBd := Lib.hid hB2
  have Hn := Lib.hid hn
  have HY : Hid (∀ W, Below w.heap.size w W → Calls Try.prog 59 #[.agg #[.int .i64 x.f1.f0, .int .i64 x.f1.f1, .string x.f1.f2, .slice A x.f1.f3.length c], .agg #[.int .i64 x.f1.f0, .int .i64 x.f1.f1, .string x.f1.f2, .slice A2 x.f1.f3.length c2]] W fun e w' => Yes W e w') := fun W hW => same59 _ x.f1 (Nat.lt_succ_self _) A c A2 c2 W (Kd.C_below hA hW) hc (Kd.C_below hA2 hW) hc2
  have HB0 : Hid (Below w.heap.size w ((w.alloc (.cells #[.string x.f0, .int .i64 x.f1.f0, .int .i64 x.f1.f1, .string x.f1.f2, .slice A x.f1.f3.length c, .slice B n d] 45)).alloc (.cells #[.string x.f0, .int .i64 x.f1.f0, .int .i64 x.f1.f1, .string x.f1.f2, .slice A2 x.f1.f3.length c2, .slice B2 n d2] 45))) := ((Below.refl _ _).alloc (Nat.le_refl _) _).alloc (by simp) _
  have HC0 : Hid ((((w.alloc (.cells #[.string x.f0, .int .i64 x.f1.f0, .int .i64 x.f1.f1, .string x.f1.f2, .slice A x.f1.f3.length c, .slice B n d] 45)).alloc (.cells #[.string x.f0, .int .i64 x.f1.f0, .int .i64 x.f1.f1, .string x.f1.f2, .slice A2 x.f1.f3.length c2, .slice B2 n d2] 45))).heap[w.heap.size]? = some (.cells #[.string x.f0, .int .i64 x.f1.f0, .int .i64 x.f1.f1, .string x.f1.f2, .slice A x.f1.f3.length c, .slice B n d] 45 (0, 0))) := blk_alloc (blk_new w _) _
  have HD0 : Hid ((((w.alloc (.cells #[.string x.f0, .int .i64 x.f1.f0, .int .i64 x.f1.f1, .string x.f1.f2, .slice A x.f1.f3.length c, .slice B n d] 45)).alloc (.cells #[.string x.f0, .int .i64 x.f1.f0, .int .i64 x.f1.f1, .string x.f1.f2, .slice A2 x.f1.f3.length c2, .slice B2 n d2] 45))).heap[w.heap.size + 1]? = some (.cells #[.string x.f0, .int .i64 x.f1.f0, .int .i64 x.f1.f1, .string x.f1.f2, .slice A2 x.f1.f3.length c2, .slice B2 n d2] 45 (0, 0))) := by
    have := blk_new (w.alloc (.cells #[.string x.f0, .int .i64 x.f1.f0, .int .i64 x.f1.f1, .string x.f1.f2, .slice A x.f1.f3.length c, .slice B n d] 45)) (.cells #[.string x.f0, .int .i64 x.f1.f0, .int .i64 x.f1.f1, .string x.f1.f2, .slice A2 x.f1.f3.length c2, .slice B2 n d2] 45)
    simp only [World.size_alloc] at this
    exact this
  clear hA hB hc hd hA2 hB2 hc2 hd2
  rw [← hn]
  clear hn
  go_enter Try.func60, Try.ntmps60
  go_wp2_with (first
    | (go_at_call 59; refine (HY.out _ HB0.out).mono ?_; rintro e w1 ⟨rfl, hb⟩
       have HB1 : Hid (Below w.heap.size w w1) := HB0.out.trans (hb.out.mono HB0.out.size)
       have HC1 : Hid (w1.heap[w.heap.size]? = some (.cells #[.string x.f0, .int .i64 x.f1.f0, .int .i64 x.f1.f1, .string x.f1.f2, .slice A x.f1.f3.length c, .slice B n d] 45 (0, 0))) := (hb.out.block _ (blk_lt HC0.out)).trans HC0.out
       have HD1 : Hid (w1.heap[w.heap.size + 1]? = some (.cells #[.string x.f0, .int .i64 x.f1.f0, .int .i64 x.f1.f1, .string x.f1.f2, .slice A2 x.f1.f3.length c2, .slice B2 n d2] 45 (0, 0))) := (hb.out.block _ (blk_lt HD0.out)).trans HD0.out
       have c5 : w1.cell? ⟨w.heap.size, 5, none⟩ = some (.slice B n d) := blk_at HC1.out 5 rfl
       have d5 : w1.cell? ⟨w.heap.size + 1, 5, none⟩ = some (.slice B2 n d2) := blk_at HD1.out 5 rfl
       clear hb))
  clear c5 d5
  go_loopw [5] (fun v5 wr => ∃ k : Nat, k ≤ n ∧ v5 = .int .i64 k ∧ Hid (Below w.heap.size w wr) ∧ Hid (wr.heap[w.heap.size]? = some (.cells #[.string x.f0, .int .i64 x.f1.f0, .int .i64 x.f1.f1, .string x.f1.f2, .slice A x.f1.f3.length c, .slice B n d] 45 (0, 0))) ∧ Hid (wr.heap[w.heap.size + 1]? = some (.cells #[.string x.f0, .int .i64 x.f1.f0, .int .i64 x.f1.f1, .string x.f1.f2, .slice A2 x.f1.f3.length c2, .slice B2 n d2] 45 (0, 0)))) (fun v5 _ => n - (intOf v5).toNat)
  case atStart => exact ⟨0, Nat.zero_le _, rfl, HB1, HC1, HD1⟩
  case round =>
    clear HB1 HC1 HD1
    obtain ⟨k, hk, rfl, HB, Ck, Dk⟩ := hrel
    have c5 : wr.cell? ⟨w.heap.size, 5, none⟩ = some (.slice B n d) := blk_at Ck.out 5 rfl
    have d5 : wr.cell? ⟨w.heap.size + 1, 5, none⟩ = some (.slice B2 n d2) := blk_at Dk.out 5 rfl
    by_cases hlt : k < n
    · obtain ⟨ad, rfl, e0⟩ := ints_get HBb.out k (by rw [← Hn.out]; exact hlt)
      obtain ⟨bd, rfl, f0⟩ := ints_get HBd.out k (by rw [← Hn.out]; exact hlt)
      generalize x.f2.getD k 0 = y at *
      replace e0 := (HB.out.cell (World.block_lt_of_cell? w _ e0)).trans e0
      replace f0 := (HB.out.cell (World.block_lt_of_cell? w _ f0)).trans f0
      have i1 : (0 : Int) ≤ (k : Int) := by omega
      have i2 : (k : Int) < (n : Int) := by omega
      go_wp2
      go_quiet (fail)
      go_wp2
      go_roundw
      case rel => exact ⟨k + 1, by omega, by go_num, Lib.hid (pw_below_drewN HB.out _), Lib.hid (blk_drewN Ck.out _), Lib.hid (blk_drewN Dk.out _)⟩
      case measure => simp [intOf]; omega
    · go_wp2
      go_ret
      exact ⟨rfl, HB⟩

set_option maxRecDepth 100000 in
set_option maxHeartbeats 4000000 in
theorem same47 (x : List S45) (A : Option Addr) (c : Nat) (B : Option Addr) (d : Nat) (w : World) (hA : Kd.C k45 w A x.length x) (hB : Kd.C k45 w B x.length x) :
    Calls Try.prog 47 #[.slice A x.length c, .slice B x.length d] w fun e w' => Yes w e w' := by
  obtain ⟨n, hn⟩ : ∃ n, n = x.length := ⟨_, rfl⟩
  have hmx : n ≤ 9223372036854775807 := by rw [hn]; exact Kd.C_max hA
  have HA := Lib.hid hA
  have HBb := Lib.hid hB
  have Hn := Lib.hid hn
  clear hA hB
  rw [← hn]
  clear hn
  go_enter Try.func47, Try.ntmps47
  go_wp2
  go_loopw [5] (fun v5 wr => ∃ k : Nat, k ≤ n ∧ v5 = .int .i64 k ∧ Hid (Below w.heap.size w wr)) (fun v5 _ => n - (intOf v5).toNat)
  case atStart => exact ⟨0, Nat.zero_le _, rfl, Lib.hid (Below.refl _ _)⟩
  case round =>
    obtain ⟨k, hk, rfl, HB⟩ := hrel
    by_cases hlt : k < n
    · obtain ⟨ad, A4, c4, A5, c5, rfl, e0, e1, e2, e3, e4, e5, hl4, hC4, hl5, hC5⟩ := at_T45 HA.out (k : Int) (by omega) (by rw [← Hn.out]; omega)
      obtain ⟨bd, B4, d4, B5, d5, rfl, f0, f1, f2, f3, f4, f5, hm4, hD4, hm5, hD5⟩ := at_T45 HBb.out (k : Int) (by omega) (by rw [← Hn.out]; omega)
      generalize rd_T45 x (k : Int) = y at *
      rw [Int.toNat_natCast] at e0 e1 e2 e3 e4 e5 f0 f1 f2 f3 f4 f5
      replace e0 := (HB.out.cell (World.block_lt_of_cell? w _ e0)).trans e0
      replace e1 := (HB.out.cell (World.block_lt_of_cell? w _ e1)).trans e1
      replace e2 := (HB.out.cell (World.block_lt_of_cell? w _ e2)).trans e2
      replace e3 := (HB.out.cell (World.block_lt_of_cell? w _ e3)).trans e3
      replace e4 := (HB.out.cell (World.block_lt_of_cell? w _ e4)).trans e4
      replace e5 := (HB.out.cell (World.block_lt_of_cell? w _ e5)).trans e5
      replace f0 := (HB.out.cell (World.block_lt_of_cell? w _ f0)).trans f0
      replace f1 := (HB.out.cell (World.block_lt_of_cell? w _ f1)).trans f1
      replace f2 := (HB.out.cell (World.block_lt_of_cell? w _ f2)).trans f2
      replace f3 := (HB.out.cell (World.block_lt_of_cell? w _ f3)).trans f3
      replace f4 := (HB.out.cell (World.block_lt_of_cell? w _ f4)).trans f4
      replace f5 := (HB.out.cell (World.block_lt_of_cell? w _ f5)).trans f5
      have HY : Hid (∀ W, Below wr.heap.size wr W → Calls Try.prog 60 #[.agg #[.string y.f0, .int .i64 y.f1.f0, .int .i64 y.f1.f1, .string y.f1.f2, .slice A4 y.f1.f3.length c4, .slice A5 y.f2.length c5], .agg #[.string y.f0, .int .i64 y.f1.f0, .int .i64 y.f1.f1, .string y.f1.f2, .slice B4 y.f1.f3.length d4, .slice B5 y.f2.length d5]] W fun e w' => Yes W e w') := fun W hW => by
        have h1 := HB.out.trans (hW.mono HB.out.size)
        exact same60 y A4 c4 A5 c5 B4 d4 B5 d5 W (Kd.C_below hC4 h1) hl4 (Kd.C_below hC5 h1) hl5 (Kd.C_below hD4 h1) hm4 (Kd.C_below hD5 h1) hm5
      clear hC4 hl4 hC5 hl5 hD4 hm4 hD5 hm5
      go_wp2
      refine start_ (n := 10) (S := (fun w' => w'.cell? (ad.add (k * 6)) = some (.string y.f0) ∧ w'.cell? ⟨(ad.add (k * 6)).block, (ad.add (k * 6)).off + 1, none⟩ = some (.int .i64 y.f1.f0) ∧ w'.cell? ⟨(ad.add (k * 6)).block, (ad.add (k * 6)).off + 2, none⟩ = some (.int .i64 y.f1.f1) ∧ w'.cell? ⟨(ad.add (k * 6)).block, (ad.add (k * 6)).off + 3, none⟩ = some (.string y.f1.f2) ∧ w'.cell? ⟨(ad.add (k * 6)).block, (ad.add (k * 6)).off + 4, none⟩ = some (.slice A4 y.f1.f3.length c4) ∧ w'.cell? ⟨(ad.add (k * 6)).block, (ad.add (k * 6)).off + 5, none⟩ = some (.slice A5 y.f2.length c5) ∧ w'.cell? (bd.add (k * 6)) = some (.string y.f0) ∧ w'.cell? ⟨(bd.add (k * 6)).block, (bd.add (k * 6)).off + 1, none⟩ = some (.int .i64 y.f1.f0) ∧ w'.cell? ⟨(bd.add (k * 6)).block, (bd.add (k * 6)).off + 2, none⟩ = some (.int .i64 y.f1.f1) ∧ w'.cell? ⟨(bd.add (k * 6)).block, (bd.add (k * 6)).off + 3, none⟩ = some (.string y.f1.f2) ∧ w'.cell? ⟨(bd.add (k * 6)).block, (bd.add (k * 6)).off + 4, none⟩ = some (.slice B4 y.f1.f3.length d4) ∧ w'.cell? ⟨(bd.add (k * 6)).block, (bd.add (k * 6)).off + 5, none⟩ = some (.slice B5 y.f2.length d5))) (ds := []) #[false, false, false, false, false, false, false, false, false, false] (by kernel_rfl) rfl rfl ⟨e0, e1, e2, e3, e4, e5, f0, f1, f2, f3, f4, f5⟩ (fun hHeld => ?_)
      have HBW : Hid (Below wr.heap.size wr wr.drew) := (Below.refl _ _).drew
      have HBX : Hid (Below w.heap.size w wr.drew) := HB.out.drew
      generalize wr.drew = W at hHeld HBW HBX ⊢
      refine pure_ (i := 0) (N := some 17) (v := ?_) (a' := ?_) #[true, false, false, false, false, false, false, false, false, false] rfl rfl (by kernel_rfl) (fun _ _ _ h => h) (Or.inl ⟨by rfl, ?_⟩) ?_ ?_
      rotate_left
      · intro w'
        go_simp
        with_reducible rfl
      rotate_left
      · simp only [Act.put, List.setIfInBounds_toArray, List.set_cons_zero, List.set_cons_succ]
        rfl
      refine pure_ (i := 1) (N := some 18) (v := ?_) (a' := ?_) #[true, true, false, false, false, false, false, false, false, false] rfl rfl (by kernel_rfl) (fun _ _ _ h => h) (Or.inl ⟨by rfl, ?_⟩) ?_ ?_
      rotate_left
      · intro w'
        go_simp
        with_reducible rfl
      rotate_left
      · simp only [Act.put, List.setIfInBounds_toArray, List.set_cons_zero, List.set_cons_succ]
        rfl
      refine pure_ (i := 2) (N := some 19) (v := ?_) (a' := ?_) #[true, true, true, false, false, false, false, false, false, false] rfl rfl (by kernel_rfl) (fun _ _ _ h => h) (Or.inl ⟨by rfl, ?_⟩) ?_ ?_
      rotate_left
      · intro w'
        go_simp
        with_reducible rfl
      rotate_left
      · simp only [Act.put, List.setIfInBounds_toArray, List.set_cons_zero, List.set_cons_succ]
        rfl
      refine take_ (i := 3) (N := some 20) (v := ?_) (a' := ?_) #[true, true, true, true, false, false, false, false, false, false] rfl rfl (by kernel_rfl) (fun _ _ _ h => h) (Or.inl ⟨by rfl, ?_⟩) hHeld ?_ ?_
      rotate_left
      · rintro w' ⟨s0, s1, s2, s3, s4, s5, s6, s7, s8, s9, s10, s11⟩
        go_simp
        with_reducible rfl
      rotate_left
      · simp only [Act.put, List.setIfInBounds_toArray, List.set_cons_zero, List.set_cons_succ]
        rfl
      refine pure_ (i := 4) (N := some 21) (v := ?_) (a' := ?_) #[true, true, true, true, true, false, false, false, false, false] rfl rfl (by kernel_rfl) (fun _ _ _ h => h) (Or.inl ⟨by rfl, ?_⟩) ?_ ?_
      rotate_left
      · intro w'
        go_simp
        with_reducible rfl
      rotate_left
      · simp only [Act.put, List.setIfInBounds_toArray, List.set_cons_zero, List.set_cons_succ]
        rfl
      refine pure_ (i := 5) (N := some 22) (v := ?_) (a' := ?_) #[true, true, true, true, true, true, false, false, false, false] rfl rfl (by kernel_rfl) (fun _ _ _ h => h) (Or.inl ⟨by rfl, ?_⟩) ?_ ?_
      rotate_left
      · intro w'
        go_simp
        with_reducible rfl
      rotate_left
      · simp only [Act.put, List.setIfInBounds_toArray, List.set_cons_zero, List.set_cons_succ]
        rfl
      refine pure_ (i := 6) (N := some 23) (v := ?_) (a' := ?_) #[true, true, true, true, true, true, true, false, false, false] rfl rfl (by kernel_rfl) (fun _ _ _ h => h) (Or.inl ⟨by rfl, ?_⟩) ?_ ?_
      rotate_left
      · intro w'
        go_simp
        with_reducible rfl
      rotate_left
      · simp only [Act.put, List.setIfInBounds_toArray, List.set_cons_zero, List.set_cons_succ]
        rfl
      refine take_ (i := 7) (N := some 24) (v := ?_) (a' := ?_) #[true, true, true, true, true, true, true, true, false, false] rfl rfl (by kernel_rfl) (fun _ _ _ h => h) (Or.inl ⟨by rfl, ?_⟩) hHeld ?_ ?_
      rotate_left
      · rintro w' ⟨s0, s1, s2, s3, s4, s5, s6, s7, s8, s9, s10, s11⟩
        go_simp
        with_reducible rfl
      rotate_left
      · simp only [Act.put, List.setIfInBounds_toArray, List.set_cons_zero, List.set_cons_succ]
        rfl
      refine one_ (i := 8) (N := some 25) #[true, true, true, true, true, true, true, true, true, false] rfl rfl (by kernel_rfl) (by decide) (fun K hK => ?_)
      refine goes_ Try.func60 (by kernel_rfl) rfl #[.agg #[.string y.f0, .int .i64 y.f1.f0, .int .i64 y.f1.f1, .string y.f1.f2, .slice A4 y.f1.f3.length c4, .slice A5 y.f2.length c5], .agg #[.string y.f0, .int .i64 y.f1.f0, .int .i64 y.f1.f1, .string y.f1.f2, .slice B4 y.f1.f3.length d4, .slice B5 y.f2.length d5]] (by rfl) rfl rfl (by simp only [List.map_toArray, List.map_cons, List.map_nil]; rfl) ?_
      refine (HY.out W HBW.out).mono ?_
      rintro e w5 ⟨rfl, hb⟩
      have HB5 : Hid (Below w.heap.size w w5) := HBX.out.trans (hb.out.mono HBX.out.size)
      have HB5' : Hid (Below wr.heap.size wr w5) := HBW.out.trans (hb.out.mono HBW.out.size)
      refine ⟨_, rfl, ?_⟩
      refine hK.out _ _ ⟨pw_cell_below hb.out hHeld.1, pw_cell_below hb.out hHeld.2.1, pw_cell_below hb.out hHeld.2.2.1, pw_cell_below hb.out hHeld.2.2.2.1, pw_cell_below hb.out hHeld.2.2.2.2.1, pw_cell_below hb.out hHeld.2.2.2.2.2.1, pw_cell_below hb.out hHeld.2.2.2.2.2.2.1, pw_cell_below hb.out hHeld.2.2.2.2.2.2.2.1, pw_cell_below hb.out hHeld.2.2.2.2.2.2.2.2.1, pw_cell_below hb.out hHeld.2.2.2.2.2.2.2.2.2.1, pw_cell_below hb.out hHeld.2.2.2.2.2.2.2.2.2.2.1, pw_cell_below hb.out hHeld.2.2.2.2.2.2.2.2.2.2.2⟩ (fun hHeld => ?_)
      clear hK K hb
      refine norm_ (a' := ?_) ?_ ?_
      rotate_left
      · show Act.put _ (some 25) _ = _
        simp only [Act.put, List.setIfInBounds_toArray, List.set_cons_zero, List.set_cons_succ]
        rfl
      refine pure_ (i := 9) (N := some 26) (v := ?_) (a' := ?_) #[true, true, true, true, true, true, true, true, true, true] rfl rfl (by kernel_rfl) (fun _ _ _ h => h) (Or.inl ⟨by rfl, ?_⟩) ?_ ?_
      rotate_left
      · intro w'
        go_simp
        with_reducible rfl
      rotate_left
      · simp only [Act.put, List.setIfInBounds_toArray, List.set_cons_zero, List.set_cons_succ]
        rfl
      refine done_ (by kernel_rfl) ?_
      go_wp2
      go_roundw
      case rel => exact ⟨k + 1, by omega, by go_num, HB5⟩
      case measure => simp [intOf]; omega
    · go_wp2
      go_ret
      exact ⟨rfl, HB⟩

set_option maxRecDepth 100000 in
set_option maxHeartbeats 4000000 in
theorem same46 (x : S34) (A : Option Addr) (c : Nat) (B : Option Addr) (d : Nat) (w : World) (hA : Kd.C k104 w A x.f1.length x.f1) (hB : Kd.C k104 w B x.f1.length x.f1) :
    Calls Try.prog 46 #[.agg #[.int .i64 x.f0, .slice A x.f1.length c], .agg #[.int .i64 x.f0, .slice B x.f1.length d]] w fun e w' => Yes w e w' := by
  obtain ⟨n, hn⟩ : ∃ n, n = x.f1.length := ⟨_, rfl⟩
  have hmx : n ≤ 9223372036854775807 := by rw [hn]; exact Kd.C_max hA
  have HA := Lib.hid hA
  have HBb := Lib.hid hB
  have Hn := Lib.hid hn
  clear hA hB
  rw [← hn]
  clear hn
  go_enter Try.func46, Try.ntmps46
  go_wp2
  go_loopw [5] (fun v5 wr => ∃ k : Nat, k ≤ n ∧ v5 = .int .i64 k ∧ Hid (Below w.heap.size w wr) ∧ Hid (wr.heap[w.heap.size]? = some (.cells #[.int .i64 x.f0, .slice A n c] 34 (0, 0))) ∧ Hid (wr.heap[w.heap.size + 1]? = some (.cells #[.int .i64 x.f0, .slice B n d] 34 (0, 0)))) (fun v5 _ => n - (intOf v5).toNat)
  case atStart =>
    refine ⟨0, Nat.zero_le _, rfl, ?_, ?_, ?_⟩
    · exact Lib.hid (((Below.refl _ _).alloc (Nat.le_refl _) _).alloc (by simp) _)
    · exact Lib.hid (blk_alloc (blk_new w _) _)
    · have := blk_new (w.alloc (.cells #[.int .i64 x.f0, .slice A n c] 34)) (.cells #[.int .i64 x.f0, .slice B n d] 34)
      simp only [World.size_alloc] at this
      exact this
  case round =>
    obtain ⟨k, hk, rfl, HB, Ck, Dk⟩ := hrel
    have c1 : wr.cell? ⟨w.heap.size, 1, none⟩ = some (.slice A n c) := blk_at Ck.out 1 rfl
    have d1 : wr.cell? ⟨w.heap.size + 1, 1, none⟩ = some (.slice B n d) := blk_at Dk.out 1 rfl
    by_cases hlt : k < n
    · obtain ⟨ad, Au, cu, rfl, q0, q1, hlu, hCu⟩ := at_T104 HA.out (k : Int) (by omega) (by rw [← Hn.out]; omega)
      obtain ⟨bd, Bu, du, rfl, p0, p1, hmu, hDu⟩ := at_T104 HBb.out (k : Int) (by omega) (by rw [← Hn.out]; omega)
      generalize rd_T104 x.f1 (k : Int) = z at *
      rw [Int.toNat_natCast] at q0 q1 p0 p1
      replace q0 := (HB.out.cell (World.block_lt_of_cell? w _ q0)).trans q0
      replace q1 := (HB.out.cell (World.block_lt_of_cell? w _ q1)).trans q1
      replace p0 := (HB.out.cell (World.block_lt_of_cell? w _ p0)).trans p0
      replace p1 := (HB.out.cell (World.block_lt_of_cell? w _ p1)).trans p1
      obtain ⟨m, hm⟩ : ∃ m, m = z.f1.length := ⟨_, rfl⟩
      have hmm : m ≤ 9223372036854775807 := by rw [hm]; exact Kd.C_max hCu
      have HCu := Lib.hid hCu
      have HDu := Lib.hid hDu
      have Hm := Lib.hid hm
      rw [← hm] at q1 p1
      have Q1 := Lib.hid q1
      have P1 := Lib.hid p1
      have i1 : (0 : Int) ≤ (k : Int) := by omega
      have i2 : (k : Int) < (n : Int) := by omega
      clear hlu hCu hmu hDu hm
      obtain ⟨wo, rfl⟩ : ∃ wo : World, wo = wr := ⟨_, rfl⟩
      have HBo := HB
      have Cko := Ck
      have Dko := Dk
      clear HB Ck Dk
      go_wp2
      go_quiet (fail)
      go_wp2
      clear q0 q1 p0 p1 c1 d1 i1 i2
      go_loopw [6] (fun v6 wr => ∃ j : Nat, j ≤ m ∧ v6 = .int .i64 j ∧ Hid (Below wo.heap.size wo wr)) (fun v6 _ => m - (intOf v6).toNat)
      case atStart => exact ⟨0, Nat.zero_le _, rfl, Lib.hid (pw_below_drewN (Below.refl _ _) _)⟩
      case round =>
        obtain ⟨j, hj, rfl, HBi⟩ := hrel
        have HB : Hid (Below w.heap.size w wr) := HBo.out.trans (HBi.out.mono HBo.out.size)
        have Ck : Hid (wr.heap[w.heap.size]? = some (.cells #[.int .i64 x.f0, .slice (some ad) n c] 34 (0, 0))) := (HBi.out.block _ (blk_lt Cko.out)).trans Cko.out
        have Dk : Hid (wr.heap[w.heap.size + 1]? = some (.cells #[.int .i64 x.f0, .slice (some bd) n d] 34 (0, 0))) := (HBi.out.block _ (blk_lt Dko.out)).trans Dko.out
        have c1 : wr.cell? ⟨w.heap.size, 1, none⟩ = some (.slice (some ad) n c) := blk_at Ck.out 1 rfl
        have d1 : wr.cell? ⟨w.heap.size + 1, 1, none⟩ = some (.slice (some bd) n d) := blk_at Dk.out 1 rfl
        have q1 := (HBi.out.cell (World.block_lt_of_cell? wo _ Q1.out)).trans Q1.out
        have p1 := (HBi.out.cell (World.block_lt_of_cell? wo _ P1.out)).trans P1.out
        have i1 : (0 : Int) ≤ (k : Int) := by omega
        have i2 : (k : Int) < (n : Int) := by omega
        by_cases hlj : j < m
        · obtain ⟨au, A3, cc, rfl, e0, e1, e2, e3, hl3, hC3⟩ := at_T42 HCu.out (j : Int) (by omega) (by rw [← Hm.out]; omega)
          obtain ⟨bu, B3, cd, rfl, f0, f1, f2, f3, hm3, hD3⟩ := at_T42 HDu.out (j : Int) (by omega) (by rw [← Hm.out]; omega)
          generalize rd_T42 z.f1 (j : Int) = y at *
          rw [Int.toNat_natCast] at e0 e1 e2 e3 f0 f1 f2 f3
          replace e0 := (HB.out.cell (World.block_lt_of_cell? w _ e0)).trans e0
          replace e1 := (HB.out.cell (World.block_lt_of_cell? w _ e1)).trans e1
          replace e2 := (HB.out.cell (World.block_lt_of_cell? w _ e2)).trans e2
          replace e3 := (HB.out.cell (World.block_lt_of_cell? w _ e3)).trans e3
          replace f0 := (HB.out.cell (World.block_lt_of_cell? w _ f0)).trans f0
          replace f1 := (HB.out.cell (World.block_lt_of_cell? w _ f1)).trans f1
          replace f2 := (HB.out.cell (World.block_lt_of_cell? w _ f2)).trans f2
          replace f3 := (HB.out.cell (World.block_lt_of_cell? w _ f3)).trans f3
          have HY : Hid (∀ W, Below wr.heap.size wr W → Calls Try.prog 59 #[.agg #[.int .i64 y.f0, .int .i64 y.f1, .string y.f2, .slice A3 y.f3.length cc], .agg #[.int .i64 y.f0, .int .i64 y.f1, .string y.f2, .slice B3 y.f3.length cd]] W fun e w' => Yes W e w') := fun W hW =>
            same59 _ y (Nat.lt_succ_self _) A3 cc B3 cd W (Kd.C_below hC3 (HB.out.trans (hW.mono HB.out.size))) hl3 (Kd.C_below hD3 (HB.out.trans (hW.mono HB.out.size))) hm3
          clear hC3 hl3 hD3 hm3
          go_wp2
          refine start_ (n := 20) (S := (fun w' => w'.cell? ⟨w.heap.size, 1, none⟩ = some (.slice (some ad) n c) ∧ w'.cell? ⟨w.heap.size + 1, 1, none⟩ = some (.slice (some bd) n d) ∧ w'.cell? ⟨(ad.add (k * 2)).block, (ad.add (k * 2)).off + 1, none⟩ = some (.slice (some au) m cu) ∧ w'.cell? ⟨(bd.add (k * 2)).block, (bd.add (k * 2)).off + 1, none⟩ = some (.slice (some bu) m du) ∧ w'.cell? (au.add (j * 4)) = some (.int .i64 y.f0) ∧ w'.cell? ⟨(au.add (j * 4)).block, (au.add (j * 4)).off + 1, none⟩ = some (.int .i64 y.f1) ∧ w'.cell? ⟨(au.add (j * 4)).block, (au.add (j * 4)).off + 2, none⟩ = some (.string y.f2) ∧ w'.cell? ⟨(au.add (j * 4)).block, (au.add (j * 4)).off + 3, none⟩ = some (.slice A3 y.f3.length cc) ∧ w'.cell? (bu.add (j * 4)) = some (.int .i64 y.f0) ∧ w'.cell? ⟨(bu.add (j * 4)).block, (bu.add (j * 4)).off + 1, none⟩ = some (.int .i64 y.f1) ∧ w'.cell? ⟨(bu.add (j * 4)).block, (bu.add (j * 4)).off + 2, none⟩ = some (.string y.f2) ∧ w'.cell? ⟨(bu.add (j * 4)).block, (bu.add (j * 4)).off + 3, none⟩ = some (.slice B3 y.f3.length cd))) (ds := []) #[false, false, false, false, false, false, false, false, false, false, false, false, false, false, false, false, false, false, false, false] (by kernel_rfl) rfl rfl ⟨c1, d1, q1, p1, e0, e1, e2, e3, f0, f1, f2, f3⟩ (fun hHeld => ?_)
          have HBW : Hid (Below wr.heap.size wr wr.drew) := (Below.refl _ _).drew
          have HBX : Hid (Below w.heap.size w wr.drew) := HB.out.drew
          generalize wr.drew = W at hHeld HBW HBX ⊢
          refine pure_ (i := 0) (N := some 69) (v := ?_) (a' := ?_) #[true, false, false, false, false, false, false, false, false, false, false, false, false, false, false, false, false, false, false, false] rfl rfl (by kernel_rfl) (fun _ _ _ h => h) (Or.inl ⟨by rfl, ?_⟩) ?_ ?_
          rotate_left
          · intro w'
            go_simp
            with_reducible rfl
          rotate_left
          · simp only [Act.put, List.setIfInBounds_toArray, List.set_cons_zero, List.set_cons_succ]
            rfl
          refine take_ (i := 1) (N := some 70) (v := ?_) (a' := ?_) #[true, true, false, false, false, false, false, false, false, false, false, false, false, false, false, false, false, false, false, false] rfl rfl (by kernel_rfl) (fun _ _ _ h => h) (Or.inl ⟨by rfl, ?_⟩) hHeld ?_ ?_
          rotate_left
          · rintro w' ⟨s0, s1, s2, s3, s4, s5, s6, s7, s8, s9, s10, s11⟩
            go_simp
            with_reducible rfl
          rotate_left
          · simp only [Act.put, List.setIfInBounds_toArray, List.set_cons_zero, List.set_cons_succ]
            rfl
          refine pure_ (i := 2) (N := some 71) (v := ?_) (a' := ?_) #[true, true, true, false, false, false, false, false, false, false, false, false, false, false, false, false, false, false, false, false] rfl rfl (by kernel_rfl) (fun _ _ _ h => h) (Or.inl ⟨by rfl, ?_⟩) ?_ ?_
          rotate_left
          · intro w'
            go_simp
            with_reducible rfl
          rotate_left
          · simp only [Act.put, List.setIfInBounds_toArray, List.set_cons_zero, List.set_cons_succ]
            rfl
          refine pure_ (i := 3) (N := some 72) (v := ?_) (a' := ?_) #[true, true, true, true, false, false, false, false, false, false, false, false, false, false, false, false, false, false, false, false] rfl rfl (by kernel_rfl) (fun _ _ _ h => h) (Or.inl ⟨by rfl, ?_⟩) ?_ ?_
          rotate_left
          · intro w'
            go_simp
            with_reducible rfl
          rotate_left
          · simp only [Act.put, List.setIfInBounds_toArray, List.set_cons_zero, List.set_cons_succ]
            rfl
          refine pure_ (i := 4) (N := some 73) (v := ?_) (a' := ?_) #[true, true, true, true, true, false, false, false, false, false, false, false, false, false, false, false, false, false, false, false] rfl rfl (by kernel_rfl) (fun _ _ _ h => h) (Or.inl ⟨by rfl, ?_⟩) ?_ ?_
          rotate_left
          · intro w'
            go_simp
            with_reducible rfl
          rotate_left
          · simp only [Act.put, List.setIfInBounds_toArray, List.set_cons_zero, List.set_cons_succ]
            rfl
          refine take_ (i := 5) (N := some 74) (v := ?_) (a' := ?_) #[true, true, true, true, true, true, false, false, false, false, false, false, false, false, false, false, false, false, false, false] rfl rfl (by kernel_rfl) (fun _ _ _ h => h) (Or.inl ⟨by rfl, ?_⟩) hHeld ?_ ?_
          rotate_left
          · rintro w' ⟨s0, s1, s2, s3, s4, s5, s6, s7, s8, s9, s10, s11⟩
            go_simp
            with_reducible rfl
          rotate_left
          · simp only [Act.put, List.setIfInBounds_toArray, List.set_cons_zero, List.set_cons_succ]
            rfl
          refine pure_ (i := 6) (N := some 75) (v := ?_) (a' := ?_) #[true, true, true, true, true, true, true, false, false, false, false, false, false, false, false, false, false, false, false, false] rfl rfl (by kernel_rfl) (fun _ _ _ h => h) (Or.inl ⟨by rfl, ?_⟩) ?_ ?_
          rotate_left
          · intro w'
            go_simp
            with_reducible rfl
          rotate_left
          · simp only [Act.put, List.setIfInBounds_toArray, List.set_cons_zero, List.set_cons_succ]
            rfl
          refine pure_ (i := 7) (N := some 76) (v := ?_) (a' := ?_) #[true, true, true, true, true, true, true, true, false, false, false, false, false, false, false, false, false, false, false, false] rfl rfl (by kernel_rfl) (fun _ _ _ h => h) (Or.inl ⟨by rfl, ?_⟩) ?_ ?_
          rotate_left
          · intro w'
            go_simp
            with_reducible rfl
          rotate_left
          · simp only [Act.put, List.setIfInBounds_toArray, List.set_cons_zero, List.set_cons_succ]
            rfl
          refine take_ (i := 8) (N := some 77) (v := ?_) (a' := ?_) #[true, true, true, true, true, true, true, true, true, false, false, false, false, false, false, false, false, false, false, false] rfl rfl (by kernel_rfl) (fun _ _ _ h => h) (Or.inl ⟨by rfl, ?_⟩) hHeld ?_ ?_
          rotate_left
          · rintro w' ⟨s0, s1, s2, s3, s4, s5, s6, s7, s8, s9, s10, s11⟩
            go_simp
            with_reducible rfl
          rotate_left
          · simp only [Act.put, List.setIfInBounds_toArray, List.set_cons_zero, List.set_cons_succ]
            rfl
          refine pure_ (i := 9) (N := some 78) (v := ?_) (a' := ?_) #[true, true, true, true, true, true, true, true, true, true, false, false, false, false, false, false, false, false, false, false] rfl rfl (by kernel_rfl) (fun _ _ _ h => h) (Or.inl ⟨by rfl, ?_⟩) ?_ ?_
          rotate_left
          · intro w'
            go_simp
            with_reducible rfl
          rotate_left
          · simp only [Act.put, List.setIfInBounds_toArray, List.set_cons_zero, List.set_cons_succ]
            rfl
          refine take_ (i := 10) (N := some 79) (v := ?_) (a' := ?_) #[true, true, true, true, true, true, true, true, true, true, true, false, false, false, false, false, false, false, false, false] rfl rfl (by kernel_rfl) (fun _ _ _ h => h) (Or.inl ⟨by rfl, ?_⟩) hHeld ?_ ?_
          rotate_left
          · rintro w' ⟨s0, s1, s2, s3, s4, s5, s6, s7, s8, s9, s10, s11⟩
            go_simp
            with_reducible rfl
          rotate_left
          · simp only [Act.put, List.setIfInBounds_toArray, List.set_cons_zero, List.set_cons_succ]
            rfl
          refine pure_ (i := 11) (N := some 80) (v := ?_) (a' := ?_) #[true, true, true, true, true, true, true, true, true, true, true, true, false, false, false, false, false, false, false, false] rfl rfl (by kernel_rfl) (fun _ _ _ h => h) (Or.inl ⟨by rfl, ?_⟩) ?_ ?_
          rotate_left
          · intro w'
            go_simp
            with_reducible rfl
          rotate_left
          · simp only [Act.put, List.setIfInBounds_toArray, List.set_cons_zero, List.set_cons_succ]
            rfl
          refine pure_ (i := 12) (N := some 81) (v := ?_) (a' := ?_) #[true, true, true, true, true, true, true, true, true, true, true, true, true, false, false, false, false, false, false, false] rfl rfl (by kernel_rfl) (fun _ _ _ h => h) (Or.inl ⟨by rfl, ?_⟩) ?_ ?_
          rotate_left
          · intro w'
            go_simp
            with_reducible rfl
          rotate_left
          · simp only [Act.put, List.setIfInBounds_toArray, List.set_cons_zero, List.set_cons_succ]
            rfl
          refine pure_ (i := 13) (N := some 82) (v := ?_) (a' := ?_) #[true, true, true, true, true, true, true, true, true, true, true, true, true, true, false, false, false, false, false, false] rfl rfl (by kernel_rfl) (fun _ _ _ h => h) (Or.inl ⟨by rfl, ?_⟩) ?_ ?_
          rotate_left
          · intro w'
            go_simp
            with_reducible rfl
          rotate_left
          · simp only [Act.put, List.setIfInBounds_toArray, List.set_cons_zero, List.set_cons_succ]
            rfl
          refine take_ (i := 14) (N := some 83) (v := ?_) (a' := ?_) #[true, true, true, true, true, true, true, true, true, true, true, true, true, true, true, false, false, false, false, false] rfl rfl (by kernel_rfl) (fun _ _ _ h => h) (Or.inl ⟨by rfl, ?_⟩) hHeld ?_ ?_
          rotate_left
          · rintro w' ⟨s0, s1, s2, s3, s4, s5, s6, s7, s8, s9, s10, s11⟩
            go_simp
            with_reducible rfl
          rotate_left
          · simp only [Act.put, List.setIfInBounds_toArray, List.set_cons_zero, List.set_cons_succ]
            rfl
          refine pure_ (i := 15) (N := some 84) (v := ?_) (a' := ?_) #[true, true, true, true, true, true, true, true, true, true, true, true, true, true, true, true, false, false, false, false] rfl rfl (by kernel_rfl) (fun _ _ _ h => h) (Or.inl ⟨by rfl, ?_⟩) ?_ ?_
          rotate_left
          · intro w'
            go_simp
            with_reducible rfl
          rotate_left
          · simp only [Act.put, List.setIfInBounds_toArray, List.set_cons_zero, List.set_cons_succ]
            rfl
          refine pure_ (i := 16) (N := some 85) (v := ?_) (a' := ?_) #[true, true, true, true, true, true, true, true, true, true, true, true, true, true, true, true, true, false, false, false] rfl rfl (by kernel_rfl) (fun _ _ _ h => h) (Or.inl ⟨by rfl, ?_⟩) ?_ ?_
          rotate_left
          · intro w'
            go_simp
            with_reducible rfl
          rotate_left
          · simp only [Act.put, List.setIfInBounds_toArray, List.set_cons_zero, List.set_cons_succ]
            rfl
          refine take_ (i := 17) (N := some 86) (v := ?_) (a' := ?_) #[true, true, true, true, true, true, true, true, true, true, true, true, true, true, true, true, true, true, false, false] rfl rfl (by kernel_rfl) (fun _ _ _ h => h) (Or.inl ⟨by rfl, ?_⟩) hHeld ?_ ?_
          rotate_left
          · rintro w' ⟨s0, s1, s2, s3, s4, s5, s6, s7, s8, s9, s10, s11⟩
            go_simp
            with_reducible rfl
          rotate_left
          · simp only [Act.put, List.setIfInBounds_toArray, List.set_cons_zero, List.set_cons_succ]
            rfl
          refine one_ (i := 18) (N := some 87) #[true, true, true, true, true, true, true, true, true, true, true, true, true, true, true, true, true, true, true, false] rfl rfl (by kernel_rfl) (by decide) (fun K hK => ?_)
          refine goes_ Try.func59 (by kernel_rfl) rfl #[.agg #[.int .i64 y.f0, .int .i64 y.f1, .string y.f2, .slice A3 y.f3.length cc], .agg #[.int .i64 y.f0, .int .i64 y.f1, .string y.f2, .slice B3 y.f3.length cd]] (by rfl) rfl rfl (by simp only [List.map_toArray, List.map_cons, List.map_nil]; rfl) ?_
          refine (HY.out W HBW.out).mono ?_
          rintro e w5 ⟨rfl, hb⟩
          have HB5 : Hid (Below w.heap.size w w5) := HBX.out.trans (hb.out.mono HBX.out.size)
          have HB5' : Hid (Below wr.heap.size wr w5) := HBW.out.trans (hb.out.mono HBW.out.size)
          refine ⟨_, rfl, ?_⟩
          refine hK.out _ _ ⟨pw_cell_below hb.out hHeld.1, pw_cell_below hb.out hHeld.2.1, pw_cell_below hb.out hHeld.2.2.1, pw_cell_below hb.out hHeld.2.2.2.1, pw_cell_below hb.out hHeld.2.2.2.2.1, pw_cell_below hb.out hHeld.2.2.2.2.2.1, pw_cell_below hb.out hHeld.2.2.2.2.2.2.1, pw_cell_below hb.out hHeld.2.2.2.2.2.2.2.1, pw_cell_below hb.out hHeld.2.2.2.2.2.2.2.2.1, pw_cell_below hb.out hHeld.2.2.2.2.2.2.2.2.2.1, pw_cell_below hb.out hHeld.2.2.2.2.2.2.2.2.2.2.1, pw_cell_below hb.out hHeld.2.2.2.2.2.2.2.2.2.2.2⟩ (fun hHeld => ?_)
          clear hK K hb
          refine norm_ (a' := ?_) ?_ ?_
          rotate_left
          · show Act.put _ (some 87) _ = _
            simp only [Act.put, List.setIfInBounds_toArray, List.set_cons_zero, List.set_cons_succ]
            rfl
          refine pure_ (i := 19) (N := some 88) (v := ?_) (a' := ?_) #[true, true, true, true, true, true, true, true, true, true, true, true, true, true, true, true, true, true, true, true] rfl rfl (by kernel_rfl) (fun _ _ _ h => h) (Or.inl ⟨by rfl, ?_⟩) ?_ ?_
          rotate_left
          · intro w'
            go_simp
            with_reducible rfl
          rotate_left
          · simp only [Act.put, List.setIfInBounds_toArray, List.set_cons_zero, List.set_cons_succ]
            rfl
          refine done_ (by kernel_rfl) ?_
          go_wp2
          go_roundw
          case rel => exact ⟨j + 1, by omega, by go_num, Lib.hid (HBi.out.trans (HB5'.out.mono HBi.out.size))⟩
          case measure => simp [intOf]; omega
        · go_wp2
          go_roundw
          case rel => exact ⟨k + 1, by omega, by go_num, HB, Ck, Dk⟩
          case measure => simp [intOf]; omega
    · go_wp2
      go_ret
      exact ⟨rfl, HB⟩

set_option maxRecDepth 100000 in
set_option maxHeartbeats 4000000 in
theorem same52 (s : S34) (l : List (List S45)) (p : List S45) (A1 : Option Addr) (c1 : Nat) (A2 : Option Addr) (c2 : Nat) (A3 : Option Addr) (c3 : Nat) (B1 : Option Addr) (d1 : Nat) (B2 : Option Addr) (d2 : Nat) (B3 : Option Addr) (d3 : Nat) (w : World)
    (hA1 : Kd.C k104 w A1 s.f1.length s.f1) (hA2 : Kd.C (Kd.slice 45 k45) w A2 l.length l) (hA3 : Kd.C k45 w A3 p.length p) (hB1 : Kd.C k104 w B1 s.f1.length s.f1) (hB2 : Kd.C (Kd.slice 45 k45) w B2 l.length l) (hB3 : Kd.C k45 w B3 p.length p) :
    Calls Try.prog 52 #[.agg #[.int .i64 s.f0, .slice A1 s.f1.length c1, .slice A2 l.length c2, .slice A3 p.length c3], .agg #[.int .i64 s.f0, .slice B1 s.f1.length d1, .slice B2 l.length d2, .slice B3 p.length d3]] w fun e w' => Yes w e w' := by
  obtain ⟨n, hn⟩ : ∃ n, n = l.length := ⟨_, rfl⟩
  have hmx : n ≤ 9223372036854775807 := by rw [hn]; exact Kd.C_max hA2
  have HBb := Lib.hid hA2
  have HBd := Lib.hid hB2
  have Hn := Lib.hid hn
  have HY1 : Hid (∀ W, Below w.heap.size w W → Calls Try.prog 46 #[.agg #[.int .i64 s.f0, .slice A1 s.f1.length c1], .agg #[.int .i64 s.f0, .slice B1 s.f1.length d1]] W fun e w' => Yes W e w') := fun W hW => same46 s A1 c1 B1 d1 W (Kd.C_below hA1 hW) (Kd.C_below hB1 hW)
  have HY2 : Hid (∀ W, Below w.heap.size w W → Calls Try.prog 47 #[.slice A3 p.length c3, .slice B3 p.length d3] W fun e w' => Yes W e w') := fun W hW => same47 p A3 c3 B3 d3 W (Kd.C_below hA3 hW) (Kd.C_below hB3 hW)
  have HB0 : Hid (Below w.heap.size w ((w.alloc (.cells #[.int .i64 s.f0, .slice A1 s.f1.length c1, .slice A2 n c2, .slice A3 p.length c3] 55)).alloc (.cells #[.int .i64 s.f0, .slice B1 s.f1.length d1, .slice B2 n d2, .slice B3 p.length d3] 55))) := ((Below.refl _ _).alloc (Nat.le_refl _) _).alloc (by simp) _
  have HC0 : Hid ((((w.alloc (.cells #[.int .i64 s.f0, .slice A1 s.f1.length c1, .slice A2 n c2, .slice A3 p.length c3] 55)).alloc (.cells #[.int .i64 s.f0, .slice B1 s.f1.length d1, .slice B2 n d2, .slice B3 p.length d3] 55))).heap[w.heap.size]? = some (.cells #[.int .i64 s.f0, .slice A1 s.f1.length c1, .slice A2 n c2, .slice A3 p.length c3] 55 (0, 0))) := blk_alloc (blk_new w _) _
  have HD0 : Hid ((((w.alloc (.cells #[.int .i64 s.f0, .slice A1 s.f1.length c1, .slice A2 n c2, .slice A3 p.length c3] 55)).alloc (.cells #[.int .i64 s.f0, .slice B1 s.f1.length d1, .slice B2 n d2, .slice B3 p.length d3] 55))).heap[w.heap.size + 1]? = some (.cells #[.int .i64 s.f0, .slice B1 s.f1.length d1, .slice B2 n d2, .slice B3 p.length d3] 55 (0, 0))) := by
    have := blk_new (w.alloc (.cells #[.int .i64 s.f0, .slice A1 s.f1.length c1, .slice A2 n c2, .slice A3 p.length c3] 55)) (.cells #[.int .i64 s.f0, .slice B1 s.f1.length d1, .slice B2 n d2, .slice B3 p.length d3] 55)
    simp only [World.size_alloc] at this
    exact this
  clear hA1 hA2 hA3 hB1 hB2 hB3
  rw [← hn]
  clear hn
  go_enter Try.func52, Try.ntmps52
  go_wp2_with (first
    | (go_at_call 46; refine (HY1.out _ HB0.out).mono ?_; rintro e w1 ⟨rfl, hb⟩
       have HB1 : Hid (Below w.heap.size w w1) := HB0.out.trans (hb.out.mono HB0.out.size)
       have HC1 : Hid (w1.heap[w.heap.size]? = some (.cells #[.int .i64 s.f0, .slice A1 s.f1.length c1, .slice A2 n c2, .slice A3 p.length c3] 55 (0, 0))) := (hb.out.block _ (blk_lt HC0.out)).trans HC0.out
       have HD1 : Hid (w1.heap[w.heap.size + 1]? = some (.cells #[.int .i64 s.f0, .slice B1 s.f1.length d1, .slice B2 n d2, .slice B3 p.length d3] 55 (0, 0))) := (hb.out.block _ (blk_lt HD0.out)).trans HD0.out
       have q31 : w1.cell? ⟨w.heap.size, 3, none⟩ = some (.slice A3 p.length c3) := blk_at HC1.out 3 rfl
       have p31 : w1.cell? ⟨w.heap.size + 1, 3, none⟩ = some (.slice B3 p.length d3) := blk_at HD1.out 3 rfl
       have q21 : w1.cell? ⟨w.heap.size, 2, none⟩ = some ( .slice A2 n c2) := blk_at HC1.out 2 rfl
       have p21 : w1.cell? ⟨w.heap.size + 1, 2, none⟩ = some ( .slice B2 n d2) := blk_at HD1.out 2 rfl
       clear hb)
    | (go_at_call 47; refine (HY2.out _ HB1.out).mono ?_; rintro e w2 ⟨rfl, hb⟩
       have HB2 : Hid (Below w.heap.size w w2) := HB1.out.trans (hb.out.mono HB1.out.size)
       have HC2 : Hid (w2.heap[w.heap.size]? = some (.cells #[.int .i64 s.f0, .slice A1 s.f1.length c1, .slice A2 n c2, .slice A3 p.length c3] 55 (0, 0))) := (hb.out.block _ (blk_lt HC1.out)).trans HC1.out
       have HD2 : Hid (w2.heap[w.heap.size + 1]? = some (.cells #[.int .i64 s.f0, .slice B1 s.f1.length d1, .slice B2 n d2, .slice B3 p.length d3] 55 (0, 0))) := (hb.out.block _ (blk_lt HD1.out)).trans HD1.out
       have q22 : w2.cell? ⟨w.heap.size, 2, none⟩ = some ( .slice A2 n c2) := blk_at HC2.out 2 rfl
       have p22 : w2.cell? ⟨w.heap.size + 1, 2, none⟩ = some ( .slice B2 n d2) := blk_at HD2.out 2 rfl
       clear hb))
  clear q31 p31 q21 p21 q22 p22
  go_loopw [5] (fun v5 wr => ∃ k : Nat, k ≤ n ∧ v5 = .int .i64 k ∧ Hid (Below w.heap.size w wr) ∧ Hid (wr.heap[w.heap.size]? = some (.cells #[.int .i64 s.f0, .slice A1 s.f1.length c1, .slice A2 n c2, .slice A3 p.length c3] 55 (0, 0))) ∧ Hid (wr.heap[w.heap.size + 1]? = some (.cells #[.int .i64 s.f0, .slice B1 s.f1.length d1, .slice B2 n d2, .slice B3 p.length d3] 55 (0, 0)))) (fun v5 _ => n - (intOf v5).toNat)
  case atStart => exact ⟨0, Nat.zero_le _, rfl, HB2, HC2, HD2⟩
  case round =>
    clear HB1 HC1 HD1 HB2 HC2 HD2
    obtain ⟨k, hk, rfl, HB, Ck, Dk⟩ := hrel
    have q2 : wr.cell? ⟨w.heap.size, 2, none⟩ = some (.slice A2 n c2) := blk_at Ck.out 2 rfl
    have p2 : wr.cell? ⟨w.heap.size + 1, 2, none⟩ = some (.slice B2 n d2) := blk_at Dk.out 2 rfl
    by_cases hlt : k < n
    · obtain ⟨ad, A0, c0, rfl, e0, hl0, hC0⟩ := at_L7 HBb.out (k : Int) (by omega) (by rw [← Hn.out]; omega)
      obtain ⟨bd, B0, d0, rfl, f0, hm0, hD0⟩ := at_L7 HBd.out (k : Int) (by omega) (by rw [← Hn.out]; omega)
      generalize rd_L7 l (k : Int) = y at *
      rw [Int.toNat_natCast] at e0 f0
      replace e0 := (HB.out.cell (World.block_lt_of_cell? w _ e0)).trans e0
      replace f0 := (HB.out.cell (World.block_lt_of_cell? w _ f0)).trans f0
      have HY : Hid (∀ W, Below wr.heap.size wr W → Calls Try.prog 47 #[.slice A0 y.length c0, .slice B0 y.length d0] W fun e w' => Yes W e w') := fun W hW =>
        same47 y A0 c0 B0 d0 W (Kd.C_below hC0 (HB.out.trans (hW.mono HB.out.size))) (Kd.C_below hD0 (HB.out.trans (hW.mono HB.out.size)))
      clear hl0 hC0 hm0 hD0
      go_wp2
      refine start_ (n := 12) (S := (fun w' => w'.cell? ⟨w.heap.size, 2, none⟩ = some (.slice (some ad) n c2) ∧ w'.cell? ⟨w.heap.size + 1, 2, none⟩ = some (.slice (some bd) n d2) ∧ w'.cell? (ad.add k) = some (.slice A0 y.length c0) ∧ w'.cell? (bd.add k) = some (.slice B0 y.length d0))) (ds := []) #[false, false, false, false, false, false, false, false, false, false, false, false] (by kernel_rfl) rfl rfl ⟨q2, p2, e0, f0⟩ (fun hHeld => ?_)
      have HBW : Hid (Below wr.heap.size wr wr.drew) := (Below.refl _ _).drew
      have HBX : Hid (Below w.heap.size w wr.drew) := HB.out.drew
      generalize wr.drew = W at hHeld HBW HBX ⊢
      refine pure_ (i := 0) (N := some 36) (v := ?_) (a' := ?_) #[true, false, false, false, false, false, false, false, false, false, false, false] rfl rfl (by kernel_rfl) (fun _ _ _ h => h) (Or.inl ⟨by rfl, ?_⟩) ?_ ?_
      rotate_left
      · intro w'
        go_simp
        with_reducible rfl
      rotate_left
      · simp only [Act.put, List.setIfInBounds_toArray, List.set_cons_zero, List.set_cons_succ]
        rfl
      refine take_ (i := 1) (N := some 37) (v := ?_) (a' := ?_) #[true, true, false, false, false, false, false, false, false, false, false, false] rfl rfl (by kernel_rfl) (fun _ _ _ h => h) (Or.inl ⟨by rfl, ?_⟩) hHeld ?_ ?_
      rotate_left
      · rintro w' ⟨s0, s1, s2, s3⟩
        go_simp
        with_reducible rfl
      rotate_left
      · simp only [Act.put, List.setIfInBounds_toArray, List.set_cons_zero, List.set_cons_succ]
        rfl
      refine pure_ (i := 2) (N := some 38) (v := ?_) (a' := ?_) #[true, true, true, false, false, false, false, false, false, false, false, false] rfl rfl (by kernel_rfl) (fun _ _ _ h => h) (Or.inl ⟨by rfl, ?_⟩) ?_ ?_
      rotate_left
      · intro w'
        go_simp
        with_reducible rfl
      rotate_left
      · simp only [Act.put, List.setIfInBounds_toArray, List.set_cons_zero, List.set_cons_succ]
        rfl
      refine pure_ (i := 3) (N := some 39) (v := ?_) (a' := ?_) #[true, true, true, true, false, false, false, false, false, false, false, false] rfl rfl (by kernel_rfl) (fun _ _ _ h => h) (Or.inl ⟨by rfl, ?_⟩) ?_ ?_
      rotate_left
      · intro w'
        go_simp
        with_reducible rfl
      rotate_left
      · simp only [Act.put, List.setIfInBounds_toArray, List.set_cons_zero, List.set_cons_succ]
        rfl
      refine take_ (i := 4) (N := some 40) (v := ?_) (a' := ?_) #[true, true, true, true, true, false, false, false, false, false, false, false] rfl rfl (by kernel_rfl) (fun _ _ _ h => h) (Or.inl ⟨by rfl, ?_⟩) hHeld ?_ ?_
      rotate_left
      · rintro w' ⟨s0, s1, s2, s3⟩
        go_simp
        with_reducible rfl
      rotate_left
      · simp only [Act.put, List.setIfInBounds_toArray, List.set_cons_zero, List.set_cons_succ]
        rfl
      refine pure_ (i := 5) (N := some 41) (v := ?_) (a' := ?_) #[true, true, true, true, true, true, false, false, false, false, false, false] rfl rfl (by kernel_rfl) (fun _ _ _ h => h) (Or.inl ⟨by rfl, ?_⟩) ?_ ?_
      rotate_left
      · intro w'
        go_simp
        with_reducible rfl
      rotate_left
      · simp only [Act.put, List.setIfInBounds_toArray, List.set_cons_zero, List.set_cons_succ]
        rfl
      refine take_ (i := 6) (N := some 42) (v := ?_) (a' := ?_) #[true, true, true, true, true, true, true, false, false, false, false, false] rfl rfl (by kernel_rfl) (fun _ _ _ h => h) (Or.inl ⟨by rfl, ?_⟩) hHeld ?_ ?_
      rotate_left
      · rintro w' ⟨s0, s1, s2, s3⟩
        go_simp
        with_reducible rfl
      rotate_left
      · simp only [Act.put, List.setIfInBounds_toArray, List.set_cons_zero, List.set_cons_succ]
        rfl
      refine pure_ (i := 7) (N := some 43) (v := ?_) (a' := ?_) #[true, true, true, true, true, true, true, true, false, false, false, false] rfl rfl (by kernel_rfl) (fun _ _ _ h => h) (Or.inl ⟨by rfl, ?_⟩) ?_ ?_
      rotate_left
      · intro w'
        go_simp
        with_reducible rfl
      rotate_left
      · simp only [Act.put, List.setIfInBounds_toArray, List.set_cons_zero, List.set_cons_succ]
        rfl
      refine pure_ (i := 8) (N := some 44) (v := ?_) (a' := ?_) #[true, true, true, true, true, true, true, true, true, false, false, false] rfl rfl (by kernel_rfl) (fun _ _ _ h => h) (Or.inl ⟨by rfl, ?_⟩) ?_ ?_
      rotate_left
      · intro w'
        go_simp
        with_reducible rfl
      rotate_left
      · simp only [Act.put, List.setIfInBounds_toArray, List.set_cons_zero, List.set_cons_succ]
        rfl
      refine take_ (i := 9) (N := some 45) (v := ?_) (a' := ?_) #[true, true, true, true, true, true, true, true, true, true, false, false] rfl rfl (by kernel_rfl) (fun _ _ _ h => h) (Or.inl ⟨by rfl, ?_⟩) hHeld ?_ ?_
      rotate_left
      · rintro w' ⟨s0, s1, s2, s3⟩
        go_simp
        with_reducible rfl
      rotate_left
      · simp only [Act.put, List.setIfInBounds_toArray, List.set_cons_zero, List.set_cons_succ]
        rfl
      refine one_ (i := 10) (N := some 46) #[true, true, true, true, true, true, true, true, true, true, true, false] rfl rfl (by kernel_rfl) (by decide) (fun K hK => ?_)
      refine goes_ Try.func47 (by kernel_rfl) rfl #[.slice A0 y.length c0, .slice B0 y.length d0] (by rfl) rfl rfl (by simp only [List.map_toArray, List.map_cons, List.map_nil]; rfl) ?_
      refine (HY.out W HBW.out).mono ?_
      rintro e w5 ⟨rfl, hb⟩
      have HB5 : Hid (Below w.heap.size w w5) := HBX.out.trans (hb.out.mono HBX.out.size)
      have HB5' : Hid (Below wr.heap.size wr w5) := HBW.out.trans (hb.out.mono HBW.out.size)
      refine ⟨_, rfl, ?_⟩
      refine hK.out _ _ ⟨pw_cell_below hb.out hHeld.1, pw_cell_below hb.out hHeld.2.1, pw_cell_below hb.out hHeld.2.2.1, pw_cell_below hb.out hHeld.2.2.2⟩ (fun hHeld => ?_)
      clear hK K hb
      refine norm_ (a' := ?_) ?_ ?_
      rotate_left
      · show Act.put _ (some 46) _ = _
        simp only [Act.put, List.setIfInBounds_toArray, List.set_cons_zero, List.set_cons_succ]
        rfl
      refine pure_ (i := 11) (N := some 47) (v := ?_) (a' := ?_) #[true, true, true, true, true, true, true, true, true, true, true, true] rfl rfl (by kernel_rfl) (fun _ _ _ h => h) (Or.inl ⟨by rfl, ?_⟩) ?_ ?_
      rotate_left
      · intro w'
        go_simp
        with_reducible rfl
      rotate_left
      · simp only [Act.put, List.setIfInBounds_toArray, List.set_cons_zero, List.set_cons_succ]
        rfl
      refine done_ (by kernel_rfl) ?_
      go_wp2
      go_roundw
      case rel => exact ⟨k + 1, by omega, by go_num, HB5, Lib.hid ((HB5'.out.block _ (blk_lt Ck.out)).trans Ck.out), Lib.hid ((HB5'.out.block _ (blk_lt Dk.out)).trans Dk.out)⟩
      case measure => simp [intOf]; omega
    · go_wp2
      go_ret
      exact ⟨rfl, HB⟩

end Go.Proofs.Ytomfknblehkocaa.C
