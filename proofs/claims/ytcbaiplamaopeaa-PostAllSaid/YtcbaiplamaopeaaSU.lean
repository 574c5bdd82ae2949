/- sameState of two that are the same, by a walk. -/
import Derived.Test.YtcbaiplamaopeaaSW
namespace Go.Proofs.Ytcbaiplamaopeaa.PPostShots
open Go.RowKit Go.Conc Go.Proofs.YtcbaiplamaopeaaW.PrintWords Go.Proofs.YtcbaiplamaopeaaW.PrintLast
set_option linter.unusedVariables false
set_option linter.unusedSimpArgs false
set_option maxRecDepth 100000 in
set_option maxHeartbeats 16000000 in
theorem same28 (s : Int) (l : List S103) (hl : partsC l ≤ 100000) (A : Option Addr) (c : Nat) (B : Option Addr) (d : Nat) (w : World) (h1 : Kd.C k103 w A l.length l) (l1 : l.length ≤ c) (h2 : Kd.C k103 w B l.length l) (l2 : l.length ≤ d) :
    Calls Try.prog 28 #[.agg #[.int .i64 s, .slice A l.length c], .agg #[.int .i64 s, .slice B l.length d]] w fun e w' => Yes w e w' := by
  obtain ⟨n, hn⟩ : ∃ n, n = l.length := ⟨_, rfl⟩
  have hmx : n ≤ 100000 := by have := partsC_len l; omega
  have HA := Lib.hid h1
  have HBd := Lib.hid h2
  have Hn := Lib.hid hn
  have HL := Lib.hid hl
  have HB0 : Hid (Below w.heap.size w ((w.alloc (.cells #[.int .i64 s, .slice A n c] 36)).alloc (.cells #[.int .i64 s, .slice B n d] 36))) := ((Below.refl _ _).alloc (Nat.le_refl _) _).alloc (by simp) _
  have HC0 : Hid ((((w.alloc (.cells #[.int .i64 s, .slice A n c] 36)).alloc (.cells #[.int .i64 s, .slice B n d] 36))).heap[w.heap.size]? = some (.cells #[.int .i64 s, .slice A n c] 36 (0, 0))) := blk_alloc (blk_new w _) _
  have HD0 : Hid ((((w.alloc (.cells #[.int .i64 s, .slice A n c] 36)).alloc (.cells #[.int .i64 s, .slice B n d] 36))).heap[w.heap.size + 1]? = some (.cells #[.int .i64 s, .slice B n d] 36 (0, 0))) := by
    have := blk_new (w.alloc (.cells #[.int .i64 s, .slice A n c] 36)) (.cells #[.int .i64 s, .slice B n d] 36)
    simp only [World.size_alloc] at this
    exact this
  rw [← hn]
  clear h1 h2 hl hn l1 l2
  go_enter Try.func28, Try.ntmps28
  go_wp2_with (fail)
  go_loopw [5] (fun v5 wr => ∃ k : Nat, k ≤ n ∧ v5 = .int .i64 k ∧ Hid (Below w.heap.size w wr) ∧ Hid (wr.heap[w.heap.size]? = some (.cells #[.int .i64 s, .slice A n c] 36 (0, 0))) ∧ Hid (wr.heap[w.heap.size + 1]? = some (.cells #[.int .i64 s, .slice B n d] 36 (0, 0)))) (fun v5 _ => n - (intOf v5).toNat)
  case atStart => exact ⟨0, Nat.zero_le _, rfl, HB0, HC0, HD0⟩
  case round =>
    clear HB0 HC0 HD0
    obtain ⟨k, hk, rfl, HB, HC, HD⟩ := hrel
    have q1 := blk_at HC.out 1 rfl
    have p1 := blk_at HD.out 1 rfl
    by_cases hlt : k < n
    · obtain ⟨ad, Aq, cq, rfl, e0, e1, l1, g1⟩ := at_T103 HA.out (k : Int) (by omega) (by rw [← Hn.out]; omega)
      obtain ⟨bd, Bq, dq, rfl, f0, f1, l2, g2⟩ := at_T103 HBd.out (k : Int) (by omega) (by rw [← Hn.out]; omega)
      have hmem : rd_T103 l (k : Int) ∈ l := getD_mem _ _ _ (by rw [Int.toNat_natCast, ← Hn.out]; exact hlt)
      generalize rd_T103 l (k : Int) = y at *
      rw [Int.toNat_natCast] at e0 e1 f0 f1
      obtain ⟨q, hq⟩ : ∃ q, q = y.f1.length := ⟨_, rfl⟩
      rw [← hq] at e1 f1 l1 l2
      have Hq := Lib.hid hq
      have hq6 : q ≤ 100000 := by have h3 := partsC_mem hmem; have h4 := partsV_len y.f1; have := HL.out; omega
      have HG1 := Lib.hid g1
      have HG2 := Lib.hid g2
      replace e0 := pw_cell_below HB.out e0
      replace e1 := pw_cell_below HB.out e1
      replace f0 := pw_cell_below HB.out f0
      replace f1 := pw_cell_below HB.out f1
      clear hmem l1 l2 g1 g2 hq
      go_upto_region 6 with (fail)
      go_cut [6, 7] (fun v6 v7 wx => ∃ g6 g7, v6 = .pointer (some ⟨g6, 0, none⟩) ∧ v7 = .pointer (some ⟨g7, 0, none⟩) ∧ Hid (wx.heap[g6]? = some (.cells #[.string y.f0, .slice Aq q cq] 103 (0, 0))) ∧ Hid (wx.heap[g7]? = some (.cells #[.string y.f0, .slice Bq q dq] 103 (0, 0))) ∧ Hid (Below wr.heap.size wr wx))
      case first =>
        refine start_ (n := 14) (S := (fun w' => w'.cell? ⟨w.heap.size, 1, none⟩ = some (.slice (some ad) n c) ∧ w'.cell? ⟨w.heap.size + 1, 1, none⟩ = some (.slice (some bd) n d) ∧ w'.cell? (ad.add (k * 2)) = some (.string y.f0) ∧ w'.cell? ⟨(ad.add (k * 2)).block, (ad.add (k * 2)).off + 1, none⟩ = some (.slice Aq q cq) ∧ w'.cell? (bd.add (k * 2)) = some (.string y.f0) ∧ w'.cell? ⟨(bd.add (k * 2)).block, (bd.add (k * 2)).off + 1, none⟩ = some (.slice Bq q dq))) (ds := [13]) #[false, false, false, false, false, false, false, false, false, false, false, false, false, false] (by kernel_rfl) rfl rfl ⟨(show wr.drew.cell? _ = _ from q1), (show wr.drew.cell? _ = _ from p1), (show wr.drew.cell? _ = _ from e0), (show wr.drew.cell? _ = _ from e1), (show wr.drew.cell? _ = _ from f0), (show wr.drew.cell? _ = _ from f1)⟩ (fun hHeld => ?_)
        have HB_0 : Hid (Below wr.heap.size wr wr.drew) := Lib.hid (Below.refl _ _).drew
        have HBW := HB_0
        have h0_ : Hid ((wr.drew.cell? ⟨w.heap.size, 1, none⟩ = some (.slice (some ad) n c)) ∧ w.heap.size < wr.heap.size) := Lib.hid ⟨q1, World.block_lt_of_cell? wr _ q1⟩
        have h1_ : Hid ((wr.drew.cell? ⟨w.heap.size + 1, 1, none⟩ = some (.slice (some bd) n d)) ∧ w.heap.size + 1 < wr.heap.size) := Lib.hid ⟨p1, World.block_lt_of_cell? wr _ p1⟩
        have h2_ : Hid ((wr.drew.cell? (ad.add (k * 2)) = some (.string y.f0)) ∧ (ad.add (k * 2)).block < wr.heap.size) := Lib.hid ⟨e0, World.block_lt_of_cell? wr _ e0⟩
        have h3_ : Hid ((wr.drew.cell? ⟨(ad.add (k * 2)).block, (ad.add (k * 2)).off + 1, none⟩ = some (.slice Aq q cq)) ∧ (ad.add (k * 2)).block < wr.heap.size) := Lib.hid ⟨e1, World.block_lt_of_cell? wr _ e0⟩
        have h4_ : Hid ((wr.drew.cell? (bd.add (k * 2)) = some (.string y.f0)) ∧ (bd.add (k * 2)).block < wr.heap.size) := Lib.hid ⟨f0, World.block_lt_of_cell? wr _ f0⟩
        have h5_ : Hid ((wr.drew.cell? ⟨(bd.add (k * 2)).block, (bd.add (k * 2)).off + 1, none⟩ = some (.slice Bq q dq)) ∧ (bd.add (k * 2)).block < wr.heap.size) := Lib.hid ⟨f1, World.block_lt_of_cell? wr _ f0⟩
        generalize wr.drew = W0 at *
        refine pure_ (i := 0) (N := some 30) (v := ?_) (a' := ?_) #[true, false, false, false, false, false, false, false, false, false, false, false, false, false] rfl rfl (by kernel_rfl) (fun _ _ _ h => h) (Or.inl ⟨by rfl, ?_⟩) ?_ ?_
        rotate_left
        · intro w'
          go_simp
          with_reducible rfl
        rotate_left
        · simp only [Act.put, List.setIfInBounds_toArray, List.set_cons_zero, List.set_cons_succ]
          rfl
        refine take_ (i := 1) (N := some 31) (v := ?_) (a' := ?_) #[true, true, false, false, false, false, false, false, false, false, false, false, false, false] rfl rfl (by kernel_rfl) (fun _ _ _ h => h) (Or.inl ⟨by rfl, ?_⟩) hHeld ?_ ?_
        rotate_left
        · rintro w' ⟨s0, s1, s2, s3, s4, s5⟩
          go_simp
          with_reducible rfl
        rotate_left
        · simp only [Act.put, List.setIfInBounds_toArray, List.set_cons_zero, List.set_cons_succ]
          rfl
        refine pure_ (i := 2) (N := some 32) (v := ?_) (a' := ?_) #[true, true, true, false, false, false, false, false, false, false, false, false, false, false] rfl rfl (by kernel_rfl) (fun _ _ _ h => h) (Or.inl ⟨by rfl, ?_⟩) ?_ ?_
        rotate_left
        · intro w'
          go_simp
          with_reducible rfl
        rotate_left
        · simp only [Act.put, List.setIfInBounds_toArray, List.set_cons_zero, List.set_cons_succ]
          rfl
        refine pure_ (i := 3) (N := some 33) (v := ?_) (a' := ?_) #[true, true, true, true, false, false, false, false, false, false, false, false, false, false] rfl rfl (by kernel_rfl) (fun _ _ _ h => h) (Or.inl ⟨by rfl, ?_⟩) ?_ ?_
        rotate_left
        · intro w'
          go_simp
          with_reducible rfl
        rotate_left
        · simp only [Act.put, List.setIfInBounds_toArray, List.set_cons_zero, List.set_cons_succ]
          rfl
        refine take_ (i := 4) (N := some 34) (v := ?_) (a' := ?_) #[true, true, true, true, true, false, false, false, false, false, false, false, false, false] rfl rfl (by kernel_rfl) (fun _ _ _ h => h) (Or.inl ⟨by rfl, ?_⟩) hHeld ?_ ?_
        rotate_left
        · rintro w' ⟨s0, s1, s2, s3, s4, s5⟩
          go_simp
          with_reducible rfl
        rotate_left
        · simp only [Act.put, List.setIfInBounds_toArray, List.set_cons_zero, List.set_cons_succ]
          rfl
        refine pure_ (i := 5) (N := some 35) (v := ?_) (a' := ?_) #[true, true, true, true, true, true, false, false, false, false, false, false, false, false] rfl rfl (by kernel_rfl) (fun _ _ _ h => h) (Or.inl ⟨by rfl, ?_⟩) ?_ ?_
        rotate_left
        · intro w'
          go_simp
          with_reducible rfl
        rotate_left
        · simp only [Act.put, List.setIfInBounds_toArray, List.set_cons_zero, List.set_cons_succ]
          rfl
        refine take_ (i := 6) (N := some 36) (v := ?_) (a' := ?_) #[true, true, true, true, true, true, true, false, false, false, false, false, false, false] rfl rfl (by kernel_rfl) (fun _ _ _ h => h) (Or.inl ⟨by rfl, ?_⟩) hHeld ?_ ?_
        rotate_left
        · rintro w' ⟨s0, s1, s2, s3, s4, s5⟩
          go_simp
          with_reducible rfl
        rotate_left
        · simp only [Act.put, List.setIfInBounds_toArray, List.set_cons_zero, List.set_cons_succ]
          rfl
        refine pure_ (i := 7) (N := some 37) (v := ?_) (a' := ?_) #[true, true, true, true, true, true, true, true, false, false, false, false, false, false] rfl rfl (by kernel_rfl) (fun _ _ _ h => h) (Or.inl ⟨by rfl, ?_⟩) ?_ ?_
        rotate_left
        · intro w'
          go_simp
          with_reducible rfl
        rotate_left
        · simp only [Act.put, List.setIfInBounds_toArray, List.set_cons_zero, List.set_cons_succ]
          rfl
        refine pure_ (i := 8) (N := some 38) (v := ?_) (a' := ?_) #[true, true, true, true, true, true, true, true, true, false, false, false, false, false] rfl rfl (by kernel_rfl) (fun _ _ _ h => h) (Or.inl ⟨by rfl, ?_⟩) ?_ ?_
        rotate_left
        · intro w'
          go_simp
          with_reducible rfl
        rotate_left
        · simp only [Act.put, List.setIfInBounds_toArray, List.set_cons_zero, List.set_cons_succ]
          rfl
        refine take_ (i := 9) (N := some 39) (v := ?_) (a' := ?_) #[true, true, true, true, true, true, true, true, true, true, false, false, false, false] rfl rfl (by kernel_rfl) (fun _ _ _ h => h) (Or.inl ⟨by rfl, ?_⟩) hHeld ?_ ?_
        rotate_left
        · rintro w' ⟨s0, s1, s2, s3, s4, s5⟩
          go_simp
          with_reducible rfl
        rotate_left
        · simp only [Act.put, List.setIfInBounds_toArray, List.set_cons_zero, List.set_cons_succ]
          rfl
        refine two_ (i := 10) (j := 11) (Ni := some 6) (Nj := some 7) #[true, true, true, true, true, true, true, true, true, true, true, false, false, false] #[true, true, true, true, true, true, true, true, true, true, false, true, false, false] rfl rfl rfl rfl (by kernel_rfl) (by decide) (by decide) (fun K hK => ?_) (fun K hK => ?_)
        · refine value_ (w1 := W0.alloc (.cells #[.string ⟨#[]⟩, .slice none 0 0] 103)) (v := .pointer (some ⟨W0.heap.size, 0, none⟩)) (by rfl) rfl (by go_simp) ?_
          have HG6_1 : Hid ((W0.alloc (.cells #[.string ⟨#[]⟩, .slice none 0 0] 103)).heap[W0.heap.size]? = some (.cells #[.string ⟨#[]⟩, .slice none 0 0] 103 (0, 0))) := Lib.hid (blk_new _ _)
          have HB_1 := Lib.hid (HB_0.out.alloc HB_0.out.size (.cells #[.string ⟨#[]⟩, .slice none 0 0] 103))
          have HL6 : Hid (wr.heap.size ≤ W0.heap.size) := Lib.hid HB_0.out.size
          have hal : Below W0.heap.size W0 (W0.alloc (.cells #[.string ⟨#[]⟩, .slice none 0 0] 103)) := (Below.refl _ _).alloc (Nat.le_refl _) _
          refine hK.out _ _ ⟨pw_cell_below hal hHeld.1, pw_cell_below hal hHeld.2.1, pw_cell_below hal hHeld.2.2.1, pw_cell_below hal hHeld.2.2.2.1, pw_cell_below hal hHeld.2.2.2.2.1, pw_cell_below hal hHeld.2.2.2.2.2⟩ (fun hHeld => ?_)
          clear hK K hal HB_0
          generalize W0.alloc (.cells #[.string ⟨#[]⟩, .slice none 0 0] 103) = W1 at *
          generalize W0.heap.size = g6 at *
          refine norm_ (a' := ?_) ?_ ?_
          rotate_left
          · show Act.put _ (some 6) _ = _
            simp only [Act.put, List.setIfInBounds_toArray, List.set_cons_zero, List.set_cons_succ]
            rfl
          refine one_ (i := 11) (N := some 7) #[true, true, true, true, true, true, true, true, true, true, true, true, false, false] rfl rfl (by kernel_rfl) (by decide) (fun K hK => ?_)
          refine value_ (w1 := W1.alloc (.cells #[.string ⟨#[]⟩, .slice none 0 0] 103)) (v := .pointer (some ⟨W1.heap.size, 0, none⟩)) (by rfl) rfl (by go_simp) ?_
          have HG7_2 : Hid ((W1.alloc (.cells #[.string ⟨#[]⟩, .slice none 0 0] 103)).heap[W1.heap.size]? = some (.cells #[.string ⟨#[]⟩, .slice none 0 0] 103 (0, 0))) := Lib.hid (blk_new _ _)
          have HG6_2 := Lib.hid (blk_alloc HG6_1.out (.cells #[.string ⟨#[]⟩, .slice none 0 0] 103))
          have HNE : Hid (g6 ≠ W1.heap.size) := Lib.hid (by have := blk_lt HG6_1.out; omega)
          have HB_2 := Lib.hid (HB_1.out.alloc HB_1.out.size (.cells #[.string ⟨#[]⟩, .slice none 0 0] 103))
          have HL7 : Hid (wr.heap.size ≤ W1.heap.size) := Lib.hid HB_1.out.size
          have hal : Below W1.heap.size W1 (W1.alloc (.cells #[.string ⟨#[]⟩, .slice none 0 0] 103)) := (Below.refl _ _).alloc (Nat.le_refl _) _
          refine hK.out _ _ ⟨pw_cell_below hal hHeld.1, pw_cell_below hal hHeld.2.1, pw_cell_below hal hHeld.2.2.1, pw_cell_below hal hHeld.2.2.2.1, pw_cell_below hal hHeld.2.2.2.2.1, pw_cell_below hal hHeld.2.2.2.2.2⟩ (fun hHeld => ?_)
          clear hK K hal HB_1 HG6_1
          generalize W1.alloc (.cells #[.string ⟨#[]⟩, .slice none 0 0] 103) = W2 at *
          generalize W1.heap.size = g7 at *
          refine norm_ (a' := ?_) ?_ ?_
          rotate_left
          · show Act.put _ (some 7) _ = _
            simp only [Act.put, List.setIfInBounds_toArray, List.set_cons_zero, List.set_cons_succ]
            rfl
          refine one_ (i := 12) (N := none) #[true, true, true, true, true, true, true, true, true, true, true, true, true, false] rfl rfl (by kernel_rfl) (by decide) (fun K hK => ?_)
          have y0 : W2.cell? ⟨g6, 0, none⟩ = some (.string ⟨#[]⟩) := blk_at HG6_2.out 0 rfl
          have y1 : W2.cell? ⟨g6, 1, none⟩ = some (.slice none 0 0) := blk_at HG6_2.out 1 rfl
          have z0 : W2.frozen? ⟨g6, 0, none⟩ = false := blk_frozen HG6_2.out 0
          have z1 : W2.frozen? ⟨g6, 1, none⟩ = false := blk_frozen HG6_2.out 1
          refine skip_ (w1 := ((W2.setCell ⟨g6, 0, none⟩ (.string y.f0)).setCell ⟨g6, 1, none⟩ (.slice Aq q cq))) (by rfl) rfl (by go_simp) ?_
          have n67 : g6 ≠ g7 := HNE.out
          have HG6_3 := Lib.hid (blk_put (blk_put HG6_2.out 0 (.string y.f0) rfl) 1 (.slice Aq q cq) rfl)
          have HG7_3 := Lib.hid (blk_far (blk_far HG7_2.out (p := ⟨g6, 0, none⟩) n67.symm (.string y.f0)) (p := ⟨g6, 1, none⟩) n67.symm (.slice Aq q cq))
          have HB_3 := Lib.hid ((HB_2.out.setCell (p := ⟨g6, 0, none⟩) HL6.out (.string y.f0)).setCell (p := ⟨g6, 1, none⟩) HL6.out (.slice Aq q cq))
          have hfar : ∀ (a : Addr) (u : Value), W0.cell? a = some u → a.block < wr.heap.size → ((W2.setCell ⟨g6, 0, none⟩ (.string y.f0)).setCell ⟨g6, 1, none⟩ (.slice Aq q cq)).cell? a = some u := fun a u h hlt => (World.cell?_of_block ((HB_3.out.block a.block hlt).trans (HBW.out.block a.block hlt).symm)).trans h
          refine hK.out _ _ ⟨hfar _ _ h0_.out.1 h0_.out.2, hfar _ _ h1_.out.1 h1_.out.2, hfar _ _ h2_.out.1 h2_.out.2, hfar _ _ h3_.out.1 h3_.out.2, hfar _ _ h4_.out.1 h4_.out.2, hfar _ _ h5_.out.1 h5_.out.2⟩ (fun hHeld => ?_)
          clear hK K y0 y1 z0 z1 hfar HG6_2 HG7_2 HB_2
          generalize ((W2.setCell ⟨g6, 0, none⟩ (.string y.f0)).setCell ⟨g6, 1, none⟩ (.slice Aq q cq)) = W3 at *
          refine last_ (i := 13) (N := none) #[true, true, true, true, true, true, true, true, true, true, true, true, true, true] rfl rfl (by kernel_rfl) (by decide) (fun K hK => ?_)
          have y0 : W3.cell? ⟨g7, 0, none⟩ = some (.string ⟨#[]⟩) := blk_at HG7_3.out 0 rfl
          have y1 : W3.cell? ⟨g7, 1, none⟩ = some (.slice none 0 0) := blk_at HG7_3.out 1 rfl
          have z0 : W3.frozen? ⟨g7, 0, none⟩ = false := blk_frozen HG7_3.out 0
          have z1 : W3.frozen? ⟨g7, 1, none⟩ = false := blk_frozen HG7_3.out 1
          refine skip_ (w1 := ((W3.setCell ⟨g7, 0, none⟩ (.string y.f0)).setCell ⟨g7, 1, none⟩ (.slice Bq q dq))) (by rfl) rfl (by go_simp) ?_
          refine hK.out _ _ ?_
          clear hK K y0 y1 z0 z1
          refine done_ (by kernel_rfl) ?_
          have n67' : g7 ≠ g6 := fun e => HNE.out e.symm
          go_wp2_with (fail)
          go_meet
          exact ⟨g6, g7, rfl, rfl, Lib.hid (blk_far (blk_far HG6_3.out (p := ⟨g7, 0, none⟩) n67'.symm _) (p := ⟨g7, 1, none⟩) n67'.symm _), Lib.hid (blk_put (blk_put HG7_3.out 0 (.string y.f0) rfl) 1 (.slice Bq q dq) rfl), Lib.hid ((HB_3.out.setCell (p := ⟨g7, 0, none⟩) HL7.out _).setCell (p := ⟨g7, 1, none⟩) HL7.out _)⟩
        · refine value_ (w1 := W0.alloc (.cells #[.string ⟨#[]⟩, .slice none 0 0] 103)) (v := .pointer (some ⟨W0.heap.size, 0, none⟩)) (by rfl) rfl (by go_simp) ?_
          have HG7_1 : Hid ((W0.alloc (.cells #[.string ⟨#[]⟩, .slice none 0 0] 103)).heap[W0.heap.size]? = some (.cells #[.string ⟨#[]⟩, .slice none 0 0] 103 (0, 0))) := Lib.hid (blk_new _ _)
          have HB_1 := Lib.hid (HB_0.out.alloc HB_0.out.size (.cells #[.string ⟨#[]⟩, .slice none 0 0] 103))
          have HL7 : Hid (wr.heap.size ≤ W0.heap.size) := Lib.hid HB_0.out.size
          have hal : Below W0.heap.size W0 (W0.alloc (.cells #[.string ⟨#[]⟩, .slice none 0 0] 103)) := (Below.refl _ _).alloc (Nat.le_refl _) _
          refine hK.out _ _ ⟨pw_cell_below hal hHeld.1, pw_cell_below hal hHeld.2.1, pw_cell_below hal hHeld.2.2.1, pw_cell_below hal hHeld.2.2.2.1, pw_cell_below hal hHeld.2.2.2.2.1, pw_cell_below hal hHeld.2.2.2.2.2⟩ (fun hHeld => ?_)
          clear hK K hal HB_0
          generalize W0.alloc (.cells #[.string ⟨#[]⟩, .slice none 0 0] 103) = W1 at *
          generalize W0.heap.size = g7 at *
          refine norm_ (a' := ?_) ?_ ?_
          rotate_left
          · show Act.put _ (some 7) _ = _
            simp only [Act.put, List.setIfInBounds_toArray, List.set_cons_zero, List.set_cons_succ]
            rfl
          refine one_ (i := 10) (N := some 6) #[true, true, true, true, true, true, true, true, true, true, true, true, false, false] rfl rfl (by kernel_rfl) (by decide) (fun K hK => ?_)
          refine value_ (w1 := W1.alloc (.cells #[.string ⟨#[]⟩, .slice none 0 0] 103)) (v := .pointer (some ⟨W1.heap.size, 0, none⟩)) (by rfl) rfl (by go_simp) ?_
          have HG6_2 : Hid ((W1.alloc (.cells #[.string ⟨#[]⟩, .slice none 0 0] 103)).heap[W1.heap.size]? = some (.cells #[.string ⟨#[]⟩, .slice none 0 0] 103 (0, 0))) := Lib.hid (blk_new _ _)
          have HG7_2 := Lib.hid (blk_alloc HG7_1.out (.cells #[.string ⟨#[]⟩, .slice none 0 0] 103))
          have HNE : Hid (g7 ≠ W1.heap.size) := Lib.hid (by have := blk_lt HG7_1.out; omega)
          have HB_2 := Lib.hid (HB_1.out.alloc HB_1.out.size (.cells #[.string ⟨#[]⟩, .slice none 0 0] 103))
          have HL6 : Hid (wr.heap.size ≤ W1.heap.size) := Lib.hid HB_1.out.size
          have hal : Below W1.heap.size W1 (W1.alloc (.cells #[.string ⟨#[]⟩, .slice none 0 0] 103)) := (Below.refl _ _).alloc (Nat.le_refl _) _
          refine hK.out _ _ ⟨pw_cell_below hal hHeld.1, pw_cell_below hal hHeld.2.1, pw_cell_below hal hHeld.2.2.1, pw_cell_below hal hHeld.2.2.2.1, pw_cell_below hal hHeld.2.2.2.2.1, pw_cell_below hal hHeld.2.2.2.2.2⟩ (fun hHeld => ?_)
          clear hK K hal HB_1 HG7_1
          generalize W1.alloc (.cells #[.string ⟨#[]⟩, .slice none 0 0] 103) = W2 at *
          generalize W1.heap.size = g6 at *
          refine norm_ (a' := ?_) ?_ ?_
          rotate_left
          · show Act.put _ (some 6) _ = _
            simp only [Act.put, List.setIfInBounds_toArray, List.set_cons_zero, List.set_cons_succ]
            rfl
          refine one_ (i := 12) (N := none) #[true, true, true, true, true, true, true, true, true, true, true, true, true, false] rfl rfl (by kernel_rfl) (by decide) (fun K hK => ?_)
          have y0 : W2.cell? ⟨g6, 0, none⟩ = some (.string ⟨#[]⟩) := blk_at HG6_2.out 0 rfl
          have y1 : W2.cell? ⟨g6, 1, none⟩ = some (.slice none 0 0) := blk_at HG6_2.out 1 rfl
          have z0 : W2.frozen? ⟨g6, 0, none⟩ = false := blk_frozen HG6_2.out 0
          have z1 : W2.frozen? ⟨g6, 1, none⟩ = false := blk_frozen HG6_2.out 1
          refine skip_ (w1 := ((W2.setCell ⟨g6, 0, none⟩ (.string y.f0)).setCell ⟨g6, 1, none⟩ (.slice Aq q cq))) (by rfl) rfl (by go_simp) ?_
          have n67 : g6 ≠ g7 := fun e => HNE.out e.symm
          have HG6_3 := Lib.hid (blk_put (blk_put HG6_2.out 0 (.string y.f0) rfl) 1 (.slice Aq q cq) rfl)
          have HG7_3 := Lib.hid (blk_far (blk_far HG7_2.out (p := ⟨g6, 0, none⟩) n67.symm (.string y.f0)) (p := ⟨g6, 1, none⟩) n67.symm (.slice Aq q cq))
          have HB_3 := Lib.hid ((HB_2.out.setCell (p := ⟨g6, 0, none⟩) HL6.out (.string y.f0)).setCell (p := ⟨g6, 1, none⟩) HL6.out (.slice Aq q cq))
          have hfar : ∀ (a : Addr) (u : Value), W0.cell? a = some u → a.block < wr.heap.size → ((W2.setCell ⟨g6, 0, none⟩ (.string y.f0)).setCell ⟨g6, 1, none⟩ (.slice Aq q cq)).cell? a = some u := fun a u h hlt => (World.cell?_of_block ((HB_3.out.block a.block hlt).trans (HBW.out.block a.block hlt).symm)).trans h
          refine hK.out _ _ ⟨hfar _ _ h0_.out.1 h0_.out.2, hfar _ _ h1_.out.1 h1_.out.2, hfar _ _ h2_.out.1 h2_.out.2, hfar _ _ h3_.out.1 h3_.out.2, hfar _ _ h4_.out.1 h4_.out.2, hfar _ _ h5_.out.1 h5_.out.2⟩ (fun hHeld => ?_)
          clear hK K y0 y1 z0 z1 hfar HG6_2 HG7_2 HB_2
          generalize ((W2.setCell ⟨g6, 0, none⟩ (.string y.f0)).setCell ⟨g6, 1, none⟩ (.slice Aq q cq)) = W3 at *
          refine last_ (i := 13) (N := none) #[true, true, true, true, true, true, true, true, true, true, true, true, true, true] rfl rfl (by kernel_rfl) (by decide) (fun K hK => ?_)
          have y0 : W3.cell? ⟨g7, 0, none⟩ = some (.string ⟨#[]⟩) := blk_at HG7_3.out 0 rfl
          have y1 : W3.cell? ⟨g7, 1, none⟩ = some (.slice none 0 0) := blk_at HG7_3.out 1 rfl
          have z0 : W3.frozen? ⟨g7, 0, none⟩ = false := blk_frozen HG7_3.out 0
          have z1 : W3.frozen? ⟨g7, 1, none⟩ = false := blk_frozen HG7_3.out 1
          refine skip_ (w1 := ((W3.setCell ⟨g7, 0, none⟩ (.string y.f0)).setCell ⟨g7, 1, none⟩ (.slice Bq q dq))) (by rfl) rfl (by go_simp) ?_
          refine hK.out _ _ ?_
          clear hK K y0 y1 z0 z1
          refine done_ (by kernel_rfl) ?_
          have n67' : g7 ≠ g6 := HNE.out
          go_wp2_with (fail)
          go_meet
          exact ⟨g6, g7, rfl, rfl, Lib.hid (blk_far (blk_far HG6_3.out (p := ⟨g7, 0, none⟩) n67'.symm _) (p := ⟨g7, 1, none⟩) n67'.symm _), Lib.hid (blk_put (blk_put HG7_3.out 0 (.string y.f0) rfl) 1 (.slice Bq q dq) rfl), Lib.hid ((HB_3.out.setCell (p := ⟨g7, 0, none⟩) HL7.out _).setCell (p := ⟨g7, 1, none⟩) HL7.out _)⟩
      case rest =>
      obtain ⟨g6, g7, rfl, rfl, HY6, HY7, HBy⟩ := hcut
      have HBc := Lib.hid (HB.out.trans (HBy.out.mono HB.out.size))
      have HCc := Lib.hid (blk_below HC.out HBy.out)
      have HDc := Lib.hid (blk_below HD.out HBy.out)
      have u0 : wc.cell? ⟨g6, 0, none⟩ = some (.string y.f0) := blk_at HY6.out 0 rfl
      have u1 : wc.cell? ⟨g6, 1, none⟩ = some (.slice Aq q cq) := blk_at HY6.out 1 rfl
      have v0 : wc.cell? ⟨g7, 0, none⟩ = some (.string y.f0) := blk_at HY7.out 0 rfl
      have v1 : wc.cell? ⟨g7, 1, none⟩ = some (.slice Bq q dq) := blk_at HY7.out 1 rfl
      clear e0 e1 f0 f1 q1 p1 HBy HC HD HB
      go_wp2_with (fail)
      go_loopw [8] (fun v8 wr => ∃ j : Nat, j ≤ q ∧ v8 = .int .i64 j ∧ Hid (Below w.heap.size w wr) ∧ Hid (wr.heap[w.heap.size]? = some (.cells #[.int .i64 s, .slice (some ad) n c] 36 (0, 0))) ∧ Hid (wr.heap[w.heap.size + 1]? = some (.cells #[.int .i64 s, .slice (some bd) n d] 36 (0, 0))) ∧ Hid (wr.heap[g6]? = some (.cells #[.string y.f0, .slice Aq q cq] 103 (0, 0))) ∧ Hid (wr.heap[g7]? = some (.cells #[.string y.f0, .slice Bq q dq] 103 (0, 0)))) (fun v8 _ => q - (intOf v8).toNat)
      case atStart => exact ⟨0, Nat.zero_le _, rfl, HBc, HCc, HDc, HY6, HY7⟩
      case round =>
        clear HBc HCc HDc HY6 HY7 u0 u1 v0 v1
        obtain ⟨j, hj, rfl, HB, HC, HD, HY6, HY7⟩ := hrel
        have u1 := blk_at HY6.out 1 rfl
        have v1 := blk_at HY7.out 1 rfl
        by_cases hjl : j < q
        · obtain ⟨ae, A1, c1, rfl, m0, m1, m2, m3, l1, g1⟩ := at_T81 HG1.out (j : Int) (by omega) (by rw [← Hq.out]; omega)
          obtain ⟨be, B1, d1, rfl, n0, n1, n2, n3, l2, g2⟩ := at_T81 HG2.out (j : Int) (by omega) (by rw [← Hq.out]; omega)
          generalize rd_T81 y.f1 (j : Int) = v at *
          rw [Int.toNat_natCast] at m0 m1 m2 m3 n0 n1 n2 n3
          replace m0 := pw_cell_below HB.out m0
          replace m1 := pw_cell_below HB.out m1
          replace m2 := pw_cell_below HB.out m2
          replace m3 := pw_cell_below HB.out m3
          replace n0 := pw_cell_below HB.out n0
          replace n1 := pw_cell_below HB.out n1
          replace n2 := pw_cell_below HB.out n2
          replace n3 := pw_cell_below HB.out n3
          have HV : Hid (∀ W, Below wr.heap.size wr W → Calls Try.prog 47 #[.agg #[.int .i64 v.f0, .int .i64 v.f1, .string v.f2, .slice A1 v.f3.length c1], .agg #[.int .i64 v.f0, .int .i64 v.f1, .string v.f2, .slice B1 v.f3.length d1]] W fun e w' => Yes W e w') := Lib.hid (fun W hW => by
            have hW' := HB.out.trans (hW.mono HB.out.size)
            exact same47 _ v (Nat.lt_succ_self _) A1 c1 B1 d1 W (Kd.C_below g1 hW') l1 (Kd.C_below g2 hW') l2)
          clear l1 g1 l2 g2
          go_upto_region 12 with (fail)
          refine start_ (n := 12) (S := (fun w' => w'.cell? ⟨g6, 1, none⟩ = some (.slice (some ae) q cq) ∧ w'.cell? ⟨g7, 1, none⟩ = some (.slice (some be) q dq) ∧ w'.cell? (ae.add (j * 4)) = some (.int .i64 v.f0) ∧ w'.cell? ⟨(ae.add (j * 4)).block, (ae.add (j * 4)).off + 1, none⟩ = some (.int .i64 v.f1) ∧ w'.cell? ⟨(ae.add (j * 4)).block, (ae.add (j * 4)).off + 2, none⟩ = some (.string v.f2) ∧ w'.cell? ⟨(ae.add (j * 4)).block, (ae.add (j * 4)).off + 3, none⟩ = some (.slice A1 v.f3.length c1) ∧ w'.cell? (be.add (j * 4)) = some (.int .i64 v.f0) ∧ w'.cell? ⟨(be.add (j * 4)).block, (be.add (j * 4)).off + 1, none⟩ = some (.int .i64 v.f1) ∧ w'.cell? ⟨(be.add (j * 4)).block, (be.add (j * 4)).off + 2, none⟩ = some (.string v.f2) ∧ w'.cell? ⟨(be.add (j * 4)).block, (be.add (j * 4)).off + 3, none⟩ = some (.slice B1 v.f3.length d1))) (ds := []) #[false, false, false, false, false, false, false, false, false, false, false, false] (by kernel_rfl) rfl rfl ⟨(show wr.drew.cell? _ = _ from u1), (show wr.drew.cell? _ = _ from v1), (show wr.drew.cell? _ = _ from m0), (show wr.drew.cell? _ = _ from m1), (show wr.drew.cell? _ = _ from m2), (show wr.drew.cell? _ = _ from m3), (show wr.drew.cell? _ = _ from n0), (show wr.drew.cell? _ = _ from n1), (show wr.drew.cell? _ = _ from n2), (show wr.drew.cell? _ = _ from n3)⟩ (fun hHeld => ?_)
          have HBV : Hid (Below wr.heap.size wr wr.drew) := (Below.refl _ _).drew
          generalize wr.drew = W at hHeld HBV ⊢
          refine pure_ (i := 0) (N := some 61) (v := ?_) (a' := ?_) #[true, false, false, false, false, false, false, false, false, false, false, false] rfl rfl (by kernel_rfl) (fun _ _ _ h => h) (Or.inl ⟨by rfl, ?_⟩) ?_ ?_
          rotate_left
          · intro w'
            go_simp
            with_reducible rfl
          rotate_left
          · simp only [Act.put, List.setIfInBounds_toArray, List.set_cons_zero, List.set_cons_succ]
            rfl
          refine take_ (i := 1) (N := some 62) (v := ?_) (a' := ?_) #[true, true, false, false, false, false, false, false, false, false, false, false] rfl rfl (by kernel_rfl) (fun _ _ _ h => h) (Or.inl ⟨by rfl, ?_⟩) hHeld ?_ ?_
          rotate_left
          · rintro w' ⟨s0, s1, s2, s3, s4, s5, s6, s7, s8, s9⟩
            go_simp
            with_reducible rfl
          rotate_left
          · simp only [Act.put, List.setIfInBounds_toArray, List.set_cons_zero, List.set_cons_succ]
            rfl
          refine pure_ (i := 2) (N := some 63) (v := ?_) (a' := ?_) #[true, true, true, false, false, false, false, false, false, false, false, false] rfl rfl (by kernel_rfl) (fun _ _ _ h => h) (Or.inl ⟨by rfl, ?_⟩) ?_ ?_
          rotate_left
          · intro w'
            go_simp
            with_reducible rfl
          rotate_left
          · simp only [Act.put, List.setIfInBounds_toArray, List.set_cons_zero, List.set_cons_succ]
            rfl
          refine pure_ (i := 3) (N := some 64) (v := ?_) (a' := ?_) #[true, true, true, true, false, false, false, false, false, false, false, false] rfl rfl (by kernel_rfl) (fun _ _ _ h => h) (Or.inl ⟨by rfl, ?_⟩) ?_ ?_
          rotate_left
          · intro w'
            go_simp
            with_reducible rfl
          rotate_left
          · simp only [Act.put, List.setIfInBounds_toArray, List.set_cons_zero, List.set_cons_succ]
            rfl
          refine take_ (i := 4) (N := some 65) (v := ?_) (a' := ?_) #[true, true, true, true, true, false, false, false, false, false, false, false] rfl rfl (by kernel_rfl) (fun _ _ _ h => h) (Or.inl ⟨by rfl, ?_⟩) hHeld ?_ ?_
          rotate_left
          · rintro w' ⟨s0, s1, s2, s3, s4, s5, s6, s7, s8, s9⟩
            go_simp
            with_reducible rfl
          rotate_left
          · simp only [Act.put, List.setIfInBounds_toArray, List.set_cons_zero, List.set_cons_succ]
            rfl
          refine pure_ (i := 5) (N := some 66) (v := ?_) (a' := ?_) #[true, true, true, true, true, true, false, false, false, false, false, false] rfl rfl (by kernel_rfl) (fun _ _ _ h => h) (Or.inl ⟨by rfl, ?_⟩) ?_ ?_
          rotate_left
          · intro w'
            go_simp
            with_reducible rfl
          rotate_left
          · simp only [Act.put, List.setIfInBounds_toArray, List.set_cons_zero, List.set_cons_succ]
            rfl
          refine take_ (i := 6) (N := some 67) (v := ?_) (a' := ?_) #[true, true, true, true, true, true, true, false, false, false, false, false] rfl rfl (by kernel_rfl) (fun _ _ _ h => h) (Or.inl ⟨by rfl, ?_⟩) hHeld ?_ ?_
          rotate_left
          · rintro w' ⟨s0, s1, s2, s3, s4, s5, s6, s7, s8, s9⟩
            go_simp
            with_reducible rfl
          rotate_left
          · simp only [Act.put, List.setIfInBounds_toArray, List.set_cons_zero, List.set_cons_succ]
            rfl
          refine pure_ (i := 7) (N := some 68) (v := ?_) (a' := ?_) #[true, true, true, true, true, true, true, true, false, false, false, false] rfl rfl (by kernel_rfl) (fun _ _ _ h => h) (Or.inl ⟨by rfl, ?_⟩) ?_ ?_
          rotate_left
          · intro w'
            go_simp
            with_reducible rfl
          rotate_left
          · simp only [Act.put, List.setIfInBounds_toArray, List.set_cons_zero, List.set_cons_succ]
            rfl
          refine pure_ (i := 8) (N := some 69) (v := ?_) (a' := ?_) #[true, true, true, true, true, true, true, true, true, false, false, false] rfl rfl (by kernel_rfl) (fun _ _ _ h => h) (Or.inl ⟨by rfl, ?_⟩) ?_ ?_
          rotate_left
          · intro w'
            go_simp
            with_reducible rfl
          rotate_left
          · simp only [Act.put, List.setIfInBounds_toArray, List.set_cons_zero, List.set_cons_succ]
            rfl
          refine take_ (i := 9) (N := some 70) (v := ?_) (a' := ?_) #[true, true, true, true, true, true, true, true, true, true, false, false] rfl rfl (by kernel_rfl) (fun _ _ _ h => h) (Or.inl ⟨by rfl, ?_⟩) hHeld ?_ ?_
          rotate_left
          · rintro w' ⟨s0, s1, s2, s3, s4, s5, s6, s7, s8, s9⟩
            go_simp
            with_reducible rfl
          rotate_left
          · simp only [Act.put, List.setIfInBounds_toArray, List.set_cons_zero, List.set_cons_succ]
            rfl
          refine one_ (i := 10) (N := some 71) #[true, true, true, true, true, true, true, true, true, true, true, false] rfl rfl (by kernel_rfl) (by decide) (fun K hK => ?_)
          refine goes_ Try.func47 (by kernel_rfl) rfl #[.agg #[.int .i64 v.f0, .int .i64 v.f1, .string v.f2, .slice A1 v.f3.length c1], .agg #[.int .i64 v.f0, .int .i64 v.f1, .string v.f2, .slice B1 v.f3.length d1]] (by rfl) rfl rfl (by simp only [List.map_toArray, List.map_cons, List.map_nil]; rfl) ?_
          refine (HV.out W HBV.out).mono ?_
          rintro e w5 ⟨rfl, hb⟩
          have HB5 : Hid (Below wr.heap.size wr w5) := HBV.out.trans (hb.out.mono HBV.out.size)
          refine ⟨_, rfl, ?_⟩
          refine hK.out _ _ ⟨pw_cell_below hb.out hHeld.1, pw_cell_below hb.out hHeld.2.1, pw_cell_below hb.out hHeld.2.2.1, pw_cell_below hb.out hHeld.2.2.2.1, pw_cell_below hb.out hHeld.2.2.2.2.1, pw_cell_below hb.out hHeld.2.2.2.2.2.1, pw_cell_below hb.out hHeld.2.2.2.2.2.2.1, pw_cell_below hb.out hHeld.2.2.2.2.2.2.2.1, pw_cell_below hb.out hHeld.2.2.2.2.2.2.2.2.1, pw_cell_below hb.out hHeld.2.2.2.2.2.2.2.2.2⟩ (fun hHeld => ?_)
          clear hK K hb
          refine norm_ (a' := ?_) ?_ ?_
          rotate_left
          · show Act.put _ (some 71) _ = _
            simp only [Act.put, List.setIfInBounds_toArray, List.set_cons_zero, List.set_cons_succ]
            rfl
          refine pure_ (i := 11) (N := some 72) (v := ?_) (a' := ?_) #[true, true, true, true, true, true, true, true, true, true, true, true] rfl rfl (by kernel_rfl) (fun _ _ _ h => h) (Or.inl ⟨by rfl, ?_⟩) ?_ ?_
          rotate_left
          · intro w'
            go_simp
            with_reducible rfl
          rotate_left
          · simp only [Act.put, List.setIfInBounds_toArray, List.set_cons_zero, List.set_cons_succ]
            rfl
          refine done_ (by kernel_rfl) ?_
          go_wp2_with (fail)
          go_roundw
          case rel => exact ⟨j + 1, by omega, by go_num, Lib.hid (HB.out.trans (HB5.out.mono HB.out.size)), Lib.hid (blk_below HC.out HB5.out), Lib.hid (blk_below HD.out HB5.out), Lib.hid (blk_below HY6.out HB5.out), Lib.hid (blk_below HY7.out HB5.out)⟩
          case measure => simp [intOf]; omega
        · go_wp2_with (fail)
          go_roundw
          case rel => exact ⟨k + 1, by omega, by go_num, HB, HC, HD⟩
          case measure => simp [intOf]; omega
    · go_wp2_with (fail)
      go_ret
      exact ⟨rfl, HB⟩
end Go.Proofs.Ytcbaiplamaopeaa.PPostShots
