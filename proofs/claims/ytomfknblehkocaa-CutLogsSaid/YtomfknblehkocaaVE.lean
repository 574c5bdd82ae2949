/- The statement's view: fits, of a part that holds what the view holds. -/
import Derived.Test.YtomfknblehkocaaVD
namespace Go.Proofs.Ytomfknblehkocaa.C
open Go.RowKit Go.Proofs.YtomfknblehkocaaW.PrintWords Go.Proofs.YtomfknblehkocaaW.PrintLast
set_option linter.unusedVariables false
set_option linter.unusedSimpArgs false
set_option maxRecDepth 100000 in
set_option maxHeartbeats 4000000 in
theorem fits24 {w : World} {base : Nat} {own : Nat → Nat} {g : Nat} {v : Vw} (h : VwI w base own g v) (n : Nat) (hn4 : n ≤ 4) (L : List (List S45)) (hL : L.length = n) (hlg : ∀ p : Nat, p < n → v.logs.getD p [] = L.getD p []) (A1 : Option Addr) (c1 : Nat) (A2 : Option Addr) (c2 : Nat) (A3 : Option Addr) (c3 : Nat)
    (hA1 : Kd.C k104 w A1 v.st.f1.length v.st.f1) (hA2 : Kd.C (Kd.slice 45 k45) w A2 L.length L) (hA3 : Kd.C k45 w A3 v.pend.length v.pend) :
    Calls Try.prog 24 #[.pointer (some ⟨g, 0, none⟩), .agg #[.int .i64 v.st.f0, .slice A1 v.st.f1.length c1, .slice A2 n c2, .slice A3 v.pend.length c3], .int .i64 n] w fun e w' => Yes w e w' := by
  obtain ⟨va, vp, lv, h⟩ := h
  obtain ⟨B1, d1, e1, -, hB1⟩ := Kd.R_reads h.ra
  obtain ⟨B3, d3, e3, -, hB3⟩ := Kd.R_reads h.rp
  have hgl := h.glt
  have HGV := Lib.hid h
  have HLG := Lib.hid hlg
  have HL := Lib.hid hL
  have HA2 : Hid (Kd.C (Kd.slice 45 k45) w A2 n L) := by rw [hL] at hA2; exact Lib.hid hA2
  have HY1 : Hid (∀ W, Below w.heap.size w W → Calls Try.prog 46 #[.agg #[.int .i64 v.st.f0, .slice A1 v.st.f1.length c1], .agg #[.int .i64 v.st.f0, .slice B1 v.st.f1.length d1]] W fun e w' => Yes W e w') := fun W hW => same46 v.st A1 c1 B1 d1 W (Kd.C_below hA1 hW) (Kd.C_below hB1 hW)
  have HY2 : Hid (∀ W, Below w.heap.size w W → Calls Try.prog 47 #[.slice A3 v.pend.length c3, .slice B3 v.pend.length d3] W fun e w' => Yes W e w') := fun W hW => same47 v.pend A3 c3 B3 d3 W (Kd.C_below hA3 hW) (Kd.C_below hB3 hW)
  have HB0 : Hid (Below w.heap.size w (w.alloc (.cells #[.int .i64 v.st.f0, .slice A1 v.st.f1.length c1, .slice A2 n c2, .slice A3 v.pend.length c3] 55))) := (Below.refl _ _).alloc (Nat.le_refl _) _
  have HG : Hid (((w.alloc (.cells #[.int .i64 v.st.f0, .slice A1 v.st.f1.length c1, .slice A2 n c2, .slice A3 v.pend.length c3] 55))).heap[w.heap.size]? = some (.cells #[.int .i64 v.st.f0, .slice A1 v.st.f1.length c1, .slice A2 n c2, .slice A3 v.pend.length c3] 55 (0, 0))) := blk_new w _
  have hv := h.below HB0.out
  have g2 : (w.alloc (.cells #[.int .i64 v.st.f0, .slice A1 v.st.f1.length c1, .slice A2 n c2, .slice A3 v.pend.length c3] 55)).cell? ⟨g, 2, none⟩ = some (.int .i64 v.st.f0) := blk_at hv.hb 2 rfl
  have g3 : (w.alloc (.cells #[.int .i64 v.st.f0, .slice A1 v.st.f1.length c1, .slice A2 n c2, .slice A3 v.pend.length c3] 55)).cell? ⟨g, 3, none⟩ = some (.slice B1 v.st.f1.length d1) := by rw [← e1]; exact blk_at hv.hb 3 rfl
  have g4 : (w.alloc (.cells #[.int .i64 v.st.f0, .slice A1 v.st.f1.length c1, .slice A2 n c2, .slice A3 v.pend.length c3] 55)).cell? ⟨g, 4, none⟩ = some (.slice B3 v.pend.length d3) := by rw [← e3]; exact blk_at hv.hb 4 rfl
  clear h hv hlg hL hA1 hA2 hA3 hB1 hB3 e1 e3
  go_enter Try.func24, Try.ntmps24
  go_upto_region 1 with (fail)
  generalize hwr : (w.alloc (.cells #[.int .i64 v.st.f0, .slice A1 v.st.f1.length c1, .slice A2 n c2, .slice A3 v.pend.length c3] 55)) = wr at *
  replace HY1 : Hid (∀ W, Below wr.heap.size wr W → Calls Try.prog 46 #[.agg #[.int .i64 v.st.f0, .slice A1 v.st.f1.length c1], .agg #[.int .i64 v.st.f0, .slice B1 v.st.f1.length d1]] W fun e w' => Yes W e w') := fun W hW => HY1.out W (HB0.out.trans (hW.mono HB0.out.size))
  replace HY2 : Hid (∀ W, Below wr.heap.size wr W → Calls Try.prog 47 #[.slice A3 v.pend.length c3, .slice B3 v.pend.length d3] W fun e w' => Yes W e w') := fun W hW => HY2.out W (HB0.out.trans (hW.mono HB0.out.size))
  clear hwr
  refine start_ (n := 25) (S := (fun w' => w'.cell? ⟨w.heap.size, 0, none⟩ = some (.int .i64 v.st.f0) ∧ w'.cell? ⟨w.heap.size, 1, none⟩ = some (.slice A1 v.st.f1.length c1) ∧ w'.cell? ⟨w.heap.size, 2, none⟩ = some (.slice A2 n c2) ∧ w'.cell? ⟨w.heap.size, 3, none⟩ = some (.slice A3 v.pend.length c3) ∧ w'.cell? ⟨g, 2, none⟩ = some (.int .i64 v.st.f0) ∧ w'.cell? ⟨g, 3, none⟩ = some (.slice B1 v.st.f1.length d1) ∧ w'.cell? ⟨g, 4, none⟩ = some (.slice B3 v.pend.length d3))) (ds := []) #[false, false, false, false, false, false, false, false, false, false, false, false, false, false, false, false, false, false, false, false, false, false, false, false, false] (by kernel_rfl) rfl rfl ⟨blk_at HG.out 0 rfl, blk_at HG.out 1 rfl, blk_at HG.out 2 rfl, blk_at HG.out 3 rfl, g2, g3, g4⟩ (fun hHeld => ?_)
  have HBW : Hid (Below wr.heap.size wr wr.drew) := (Below.refl _ _).drew
  generalize wr.drew = W at hHeld HBW ⊢
  refine pure_ (i := 0) (N := some 8) (v := ?_) (a' := ?_) #[true, false, false, false, false, false, false, false, false, false, false, false, false, false, false, false, false, false, false, false, false, false, false, false, false] rfl rfl (by kernel_rfl) (fun _ _ _ h => h) (Or.inl ⟨by rfl, ?_⟩) ?_ ?_
  rotate_left
  · intro w'
    go_simp
    with_reducible rfl
  rotate_left
  · simp only [Act.put, List.setIfInBounds_toArray, List.set_cons_zero, List.set_cons_succ]
    rfl
  refine take_ (i := 1) (N := some 9) (v := ?_) (a' := ?_) #[true, true, false, false, false, false, false, false, false, false, false, false, false, false, false, false, false, false, false, false, false, false, false, false, false] rfl rfl (by kernel_rfl) (fun _ _ _ h => h) (Or.inl ⟨by rfl, ?_⟩) hHeld ?_ ?_
  rotate_left
  · rintro w' ⟨s0, s1, s2, s3, s4, s5, s6⟩
    go_simp
    with_reducible rfl
  rotate_left
  · simp only [Act.put, List.setIfInBounds_toArray, List.set_cons_zero, List.set_cons_succ]
    rfl
  refine pure_ (i := 2) (N := some 10) (v := ?_) (a' := ?_) #[true, true, true, false, false, false, false, false, false, false, false, false, false, false, false, false, false, false, false, false, false, false, false, false, false] rfl rfl (by kernel_rfl) (fun _ _ _ h => h) (Or.inl ⟨by rfl, ?_⟩) ?_ ?_
  rotate_left
  · intro w'
    go_simp
    with_reducible rfl
  rotate_left
  · simp only [Act.put, List.setIfInBounds_toArray, List.set_cons_zero, List.set_cons_succ]
    rfl
  refine pure_ (i := 3) (N := some 11) (v := ?_) (a' := ?_) #[true, true, true, true, false, false, false, false, false, false, false, false, false, false, false, false, false, false, false, false, false, false, false, false, false] rfl rfl (by kernel_rfl) (fun _ _ _ h => h) (Or.inl ⟨by rfl, ?_⟩) ?_ ?_
  rotate_left
  · intro w'
    go_simp
    with_reducible rfl
  rotate_left
  · simp only [Act.put, List.setIfInBounds_toArray, List.set_cons_zero, List.set_cons_succ]
    rfl
  refine pure_ (i := 4) (N := some 12) (v := ?_) (a' := ?_) #[true, true, true, true, true, false, false, false, false, false, false, false, false, false, false, false, false, false, false, false, false, false, false, false, false] rfl rfl (by kernel_rfl) (fun _ _ _ h => h) (Or.inl ⟨by rfl, ?_⟩) ?_ ?_
  rotate_left
  · intro w'
    go_simp
    with_reducible rfl
  rotate_left
  · simp only [Act.put, List.setIfInBounds_toArray, List.set_cons_zero, List.set_cons_succ]
    rfl
  refine take_ (i := 5) (N := some 13) (v := ?_) (a' := ?_) #[true, true, true, true, true, true, false, false, false, false, false, false, false, false, false, false, false, false, false, false, false, false, false, false, false] rfl rfl (by kernel_rfl) (fun _ _ _ h => h) (Or.inl ⟨by rfl, ?_⟩) hHeld ?_ ?_
  rotate_left
  · rintro w' ⟨s0, s1, s2, s3, s4, s5, s6⟩
    go_simp
    with_reducible rfl
  rotate_left
  · simp only [Act.put, List.setIfInBounds_toArray, List.set_cons_zero, List.set_cons_succ]
    rfl
  refine one_ (i := 6) (N := some 14) #[true, true, true, true, true, true, true, false, false, false, false, false, false, false, false, false, false, false, false, false, false, false, false, false, false] rfl rfl (by kernel_rfl) (by decide) (fun K hK => ?_)
  refine goes_ Try.func46 (by kernel_rfl) rfl #[.agg #[.int .i64 v.st.f0, .slice A1 v.st.f1.length c1], .agg #[.int .i64 v.st.f0, .slice B1 v.st.f1.length d1]] (by rfl) rfl rfl (by simp only [List.map_toArray, List.map_cons, List.map_nil]; rfl) ?_
  refine (HY1.out _ HBW.out).mono ?_
  rintro e w5 ⟨rfl, hb⟩
  have HB5 : Hid (Below wr.heap.size wr w5) := HBW.out.trans (hb.out.mono HBW.out.size)
  refine ⟨_, rfl, ?_⟩
  refine hK.out _ _ ⟨pw_cell_below hb.out hHeld.1, pw_cell_below hb.out hHeld.2.1, pw_cell_below hb.out hHeld.2.2.1, pw_cell_below hb.out hHeld.2.2.2.1, pw_cell_below hb.out hHeld.2.2.2.2.1, pw_cell_below hb.out hHeld.2.2.2.2.2.1, pw_cell_below hb.out hHeld.2.2.2.2.2.2⟩ (fun hHeld => ?_)
  clear hK K hb
  clear HBW
  have HBW := HB5
  clear HB5
  refine norm_ (a' := ?_) ?_ ?_
  rotate_left
  · show Act.put _ (some 14) _ = _
    simp only [Act.put, List.setIfInBounds_toArray, List.set_cons_zero, List.set_cons_succ]
    rfl
  refine pure_ (i := 7) (N := some 15) (v := ?_) (a' := ?_) #[true, true, true, true, true, true, true, true, false, false, false, false, false, false, false, false, false, false, false, false, false, false, false, false, false] rfl rfl (by kernel_rfl) (fun _ _ _ h => h) (Or.inl ⟨by rfl, ?_⟩) ?_ ?_
  rotate_left
  · intro w'
    go_simp
    with_reducible rfl
  rotate_left
  · simp only [Act.put, List.setIfInBounds_toArray, List.set_cons_zero, List.set_cons_succ]
    rfl
  refine pure_ (i := 8) (N := some 16) (v := ?_) (a' := ?_) #[true, true, true, true, true, true, true, true, true, false, false, false, false, false, false, false, false, false, false, false, false, false, false, false, false] rfl rfl (by kernel_rfl) (fun _ _ _ h => h) (Or.inl ⟨by rfl, ?_⟩) ?_ ?_
  rotate_left
  · intro w'
    go_simp
    with_reducible rfl
  rotate_left
  · simp only [Act.put, List.setIfInBounds_toArray, List.set_cons_zero, List.set_cons_succ]
    rfl
  refine pure_ (i := 9) (N := some 17) (v := ?_) (a' := ?_) #[true, true, true, true, true, true, true, true, true, true, false, false, false, false, false, false, false, false, false, false, false, false, false, false, false] rfl rfl (by kernel_rfl) (fun _ _ _ h => h) (Or.inl ⟨by rfl, ?_⟩) ?_ ?_
  rotate_left
  · intro w'
    go_simp
    with_reducible rfl
  rotate_left
  · simp only [Act.put, List.setIfInBounds_toArray, List.set_cons_zero, List.set_cons_succ]
    rfl
  refine take_ (i := 10) (N := some 18) (v := ?_) (a' := ?_) #[true, true, true, true, true, true, true, true, true, true, true, false, false, false, false, false, false, false, false, false, false, false, false, false, false] rfl rfl (by kernel_rfl) (fun _ _ _ h => h) (Or.inl ⟨by rfl, ?_⟩) hHeld ?_ ?_
  rotate_left
  · rintro w' ⟨s0, s1, s2, s3, s4, s5, s6⟩
    go_simp
    with_reducible rfl
  rotate_left
  · simp only [Act.put, List.setIfInBounds_toArray, List.set_cons_zero, List.set_cons_succ]
    rfl
  refine pure_ (i := 11) (N := some 19) (v := ?_) (a' := ?_) #[true, true, true, true, true, true, true, true, true, true, true, true, false, false, false, false, false, false, false, false, false, false, false, false, false] rfl rfl (by kernel_rfl) (fun _ _ _ h => h) (Or.inl ⟨by rfl, ?_⟩) ?_ ?_
  rotate_left
  · intro w'
    go_simp
    with_reducible rfl
  rotate_left
  · simp only [Act.put, List.setIfInBounds_toArray, List.set_cons_zero, List.set_cons_succ]
    rfl
  refine pure_ (i := 12) (N := some 20) (v := ?_) (a' := ?_) #[true, true, true, true, true, true, true, true, true, true, true, true, true, false, false, false, false, false, false, false, false, false, false, false, false] rfl rfl (by kernel_rfl) (fun _ _ _ h => h) (Or.inl ⟨by rfl, ?_⟩) ?_ ?_
  rotate_left
  · intro w'
    go_simp
    with_reducible rfl
  rotate_left
  · simp only [Act.put, List.setIfInBounds_toArray, List.set_cons_zero, List.set_cons_succ]
    rfl
  refine pure_ (i := 13) (N := some 21) (v := ?_) (a' := ?_) #[true, true, true, true, true, true, true, true, true, true, true, true, true, true, false, false, false, false, false, false, false, false, false, false, false] rfl rfl (by kernel_rfl) (fun _ _ _ h => h) (Or.inl ⟨by rfl, ?_⟩) ?_ ?_
  rotate_left
  · intro w'
    go_simp
    with_reducible rfl
  rotate_left
  · simp only [Act.put, List.setIfInBounds_toArray, List.set_cons_zero, List.set_cons_succ]
    rfl
  refine take_ (i := 14) (N := some 22) (v := ?_) (a' := ?_) #[true, true, true, true, true, true, true, true, true, true, true, true, true, true, true, false, false, false, false, false, false, false, false, false, false] rfl rfl (by kernel_rfl) (fun _ _ _ h => h) (Or.inl ⟨by rfl, ?_⟩) hHeld ?_ ?_
  rotate_left
  · rintro w' ⟨s0, s1, s2, s3, s4, s5, s6⟩
    go_simp
    with_reducible rfl
  rotate_left
  · simp only [Act.put, List.setIfInBounds_toArray, List.set_cons_zero, List.set_cons_succ]
    rfl
  refine one_ (i := 15) (N := some 23) #[true, true, true, true, true, true, true, true, true, true, true, true, true, true, true, true, false, false, false, false, false, false, false, false, false] rfl rfl (by kernel_rfl) (by decide) (fun K hK => ?_)
  refine goes_ Try.func47 (by kernel_rfl) rfl #[.slice A3 v.pend.length c3, .slice B3 v.pend.length d3] (by rfl) rfl rfl (by simp only [List.map_toArray, List.map_cons, List.map_nil]; rfl) ?_
  refine (HY2.out _ HBW.out).mono ?_
  rintro e w5 ⟨rfl, hb⟩
  have HB5 : Hid (Below wr.heap.size wr w5) := HBW.out.trans (hb.out.mono HBW.out.size)
  refine ⟨_, rfl, ?_⟩
  refine hK.out _ _ ⟨pw_cell_below hb.out hHeld.1, pw_cell_below hb.out hHeld.2.1, pw_cell_below hb.out hHeld.2.2.1, pw_cell_below hb.out hHeld.2.2.2.1, pw_cell_below hb.out hHeld.2.2.2.2.1, pw_cell_below hb.out hHeld.2.2.2.2.2.1, pw_cell_below hb.out hHeld.2.2.2.2.2.2⟩ (fun hHeld => ?_)
  clear hK K hb
  clear HBW
  have HBW := HB5
  clear HB5
  refine norm_ (a' := ?_) ?_ ?_
  rotate_left
  · show Act.put _ (some 23) _ = _
    simp only [Act.put, List.setIfInBounds_toArray, List.set_cons_zero, List.set_cons_succ]
    rfl
  refine pure_ (i := 16) (N := some 24) (v := ?_) (a' := ?_) #[true, true, true, true, true, true, true, true, true, true, true, true, true, true, true, true, true, false, false, false, false, false, false, false, false] rfl rfl (by kernel_rfl) (fun _ _ _ h => h) (Or.inl ⟨by rfl, ?_⟩) ?_ ?_
  rotate_left
  · intro w'
    go_simp
    with_reducible rfl
  rotate_left
  · simp only [Act.put, List.setIfInBounds_toArray, List.set_cons_zero, List.set_cons_succ]
    rfl
  refine pure_ (i := 17) (N := some 25) (v := ?_) (a' := ?_) #[true, true, true, true, true, true, true, true, true, true, true, true, true, true, true, true, true, true, false, false, false, false, false, false, false] rfl rfl (by kernel_rfl) (fun _ _ _ h => h) (Or.inl ⟨by rfl, ?_⟩) ?_ ?_
  rotate_left
  · intro w'
    go_simp
    with_reducible rfl
  rotate_left
  · simp only [Act.put, List.setIfInBounds_toArray, List.set_cons_zero, List.set_cons_succ]
    rfl
  refine pure_ (i := 18) (N := some 26) (v := ?_) (a' := ?_) #[true, true, true, true, true, true, true, true, true, true, true, true, true, true, true, true, true, true, true, false, false, false, false, false, false] rfl rfl (by kernel_rfl) (fun _ _ _ h => h) (Or.inl ⟨by rfl, ?_⟩) ?_ ?_
  rotate_left
  · intro w'
    go_simp
    with_reducible rfl
  rotate_left
  · simp only [Act.put, List.setIfInBounds_toArray, List.set_cons_zero, List.set_cons_succ]
    rfl
  refine pure_ (i := 19) (N := some 27) (v := ?_) (a' := ?_) #[true, true, true, true, true, true, true, true, true, true, true, true, true, true, true, true, true, true, true, true, false, false, false, false, false] rfl rfl (by kernel_rfl) (fun _ _ _ h => h) (Or.inl ⟨by rfl, ?_⟩) ?_ ?_
  rotate_left
  · intro w'
    go_simp
    with_reducible rfl
  rotate_left
  · simp only [Act.put, List.setIfInBounds_toArray, List.set_cons_zero, List.set_cons_succ]
    rfl
  refine take_ (i := 20) (N := some 28) (v := ?_) (a' := ?_) #[true, true, true, true, true, true, true, true, true, true, true, true, true, true, true, true, true, true, true, true, true, false, false, false, false] rfl rfl (by kernel_rfl) (fun _ _ _ h => h) (Or.inl ⟨by rfl, ?_⟩) hHeld ?_ ?_
  rotate_left
  · rintro w' ⟨s0, s1, s2, s3, s4, s5, s6⟩
    go_simp
    with_reducible rfl
  rotate_left
  · simp only [Act.put, List.setIfInBounds_toArray, List.set_cons_zero, List.set_cons_succ]
    rfl
  refine pure_ (i := 21) (N := some 29) (v := ?_) (a' := ?_) #[true, true, true, true, true, true, true, true, true, true, true, true, true, true, true, true, true, true, true, true, true, true, false, false, false] rfl rfl (by kernel_rfl) (fun _ _ _ h => h) (Or.inl ⟨by rfl, ?_⟩) ?_ ?_
  rotate_left
  · intro w'
    go_simp
    with_reducible rfl
  rotate_left
  · simp only [Act.put, List.setIfInBounds_toArray, List.set_cons_zero, List.set_cons_succ]
    rfl
  refine pure_ (i := 22) (N := some 30) (v := ?_) (a' := ?_) #[true, true, true, true, true, true, true, true, true, true, true, true, true, true, true, true, true, true, true, true, true, true, true, false, false] rfl rfl (by kernel_rfl) (fun _ _ _ h => h) (Or.inl ⟨by rfl, ?_⟩) ?_ ?_
  rotate_left
  · intro w'
    go_simp
    with_reducible rfl
  rotate_left
  · simp only [Act.put, List.setIfInBounds_toArray, List.set_cons_zero, List.set_cons_succ]
    rfl
  refine pure_ (i := 23) (N := some 31) (v := ?_) (a' := ?_) #[true, true, true, true, true, true, true, true, true, true, true, true, true, true, true, true, true, true, true, true, true, true, true, true, false] rfl rfl (by kernel_rfl) (fun _ _ _ h => h) (Or.inl ⟨by rfl, ?_⟩) ?_ ?_
  rotate_left
  · intro w'
    go_simp
    with_reducible rfl
  rotate_left
  · simp only [Act.put, List.setIfInBounds_toArray, List.set_cons_zero, List.set_cons_succ]
    rfl
  refine pure_ (i := 24) (N := some 32) (v := ?_) (a' := ?_) #[true, true, true, true, true, true, true, true, true, true, true, true, true, true, true, true, true, true, true, true, true, true, true, true, true] rfl rfl (by kernel_rfl) (fun _ _ _ h => h) (Or.inl ⟨by rfl, ?_⟩) ?_ ?_
  rotate_left
  · intro w'
    go_simp
    with_reducible rfl
  rotate_left
  · simp only [Act.put, List.setIfInBounds_toArray, List.set_cons_zero, List.set_cons_succ]
    rfl
  refine done_ (by kernel_rfl) ?_
  have HB1 : Hid (Below w.heap.size w _) := HB0.out.trans (HBW.out.mono HB0.out.size)
  have HG1 := Lib.hid ((HBW.out.block _ (blk_lt HG.out)).trans HG.out)
  clear g2 g3 g4 hHeld HY1 HY2 HBW HG HB0
  go_wp2
  go_loopw [7] (fun v7 wr => ∃ k : Nat, k ≤ n ∧ v7 = .int .i64 k ∧ Hid (Below w.heap.size w wr) ∧ Hid (wr.heap[w.heap.size]? = some (.cells #[.int .i64 v.st.f0, .slice A1 v.st.f1.length c1, .slice A2 n c2, .slice A3 v.pend.length c3] 55 (0, 0)))) (fun v7 _ => n - (intOf v7).toNat)
  case atStart => exact ⟨0, Nat.zero_le _, rfl, HB1, HG1⟩
  case round =>
    clear HB1 HG1
    obtain ⟨k, hk, rfl, HB, HG⟩ := hrel
    by_cases hlt : k < n
    · have h4 : (k : Int) < 4 := by omega
      have q2 : wr.cell? ⟨w.heap.size, 2, none⟩ = some (.slice A2 n c2) := blk_at HG.out 2 rfl
      obtain ⟨ad, A0, c0, rfl, e0, hl0, hC0⟩ := at_L7 HA2.out (k : Int) (by omega) (by omega)
      have hy : rd_L7 L (k : Int) = v.logs.getD k [] := (HLG.out k hlt).symm
      generalize rd_L7 L (k : Int) = y at *
      rw [Int.toNat_natCast] at e0
      obtain ⟨B0, d0, e1, -, hD0⟩ := Kd.R_reads (HGV.out.rl k (by omega))
      have f0 := (HGV.out.below HB.out).logc k (by omega)
      rw [e1, ← hy] at f0
      rw [← hy] at hD0
      replace e0 := (HB.out.cell (World.block_lt_of_cell? w _ e0)).trans e0
      have HY : Hid (∀ W, Below wr.heap.size wr W → Calls Try.prog 47 #[.slice A0 y.length c0, .slice B0 y.length d0] W fun e w' => Yes W e w') := fun W hW =>
        same47 y A0 c0 B0 d0 W (Kd.C_below hC0 (HB.out.trans (hW.mono HB.out.size))) (Kd.C_below hD0 (HB.out.trans (hW.mono HB.out.size)))
      clear hl0 hC0 hD0 e1 hy
      go_wp2
      refine start_ (n := 13) (S := (fun w' => w'.cell? ⟨w.heap.size, 2, none⟩ = some (.slice (some ad) n c2) ∧ w'.cell? (ad.add k) = some (.slice A0 y.length c0) ∧ w'.cell? ⟨g, 9 + k, none⟩ = some (.slice B0 y.length d0))) (ds := []) #[false, false, false, false, false, false, false, false, false, false, false, false, false] (by kernel_rfl) rfl rfl ⟨q2, e0, f0⟩ (fun hHeld => ?_)
      have HBW : Hid (Below wr.heap.size wr wr.drew) := (Below.refl _ _).drew
      generalize wr.drew = W at hHeld HBW ⊢
      refine pure_ (i := 0) (N := some 42) (v := ?_) (a' := ?_) #[true, false, false, false, false, false, false, false, false, false, false, false, false] rfl rfl (by kernel_rfl) (fun _ _ _ h => h) (Or.inl ⟨by rfl, ?_⟩) ?_ ?_
      rotate_left
      · intro w'
        go_simp
        with_reducible rfl
      rotate_left
      · simp only [Act.put, List.setIfInBounds_toArray, List.set_cons_zero, List.set_cons_succ]
        rfl
      refine take_ (i := 1) (N := some 43) (v := ?_) (a' := ?_) #[true, true, false, false, false, false, false, false, false, false, false, false, false] rfl rfl (by kernel_rfl) (fun _ _ _ h => h) (Or.inl ⟨by rfl, ?_⟩) hHeld ?_ ?_
      rotate_left
      · rintro w' ⟨s0, s1, s2⟩
        go_simp
        with_reducible rfl
      rotate_left
      · simp only [Act.put, List.setIfInBounds_toArray, List.set_cons_zero, List.set_cons_succ]
        rfl
      refine pure_ (i := 2) (N := some 44) (v := ?_) (a' := ?_) #[true, true, true, false, false, false, false, false, false, false, false, false, false] rfl rfl (by kernel_rfl) (fun _ _ _ h => h) (Or.inl ⟨by rfl, ?_⟩) ?_ ?_
      rotate_left
      · intro w'
        go_simp
        with_reducible rfl
      rotate_left
      · simp only [Act.put, List.setIfInBounds_toArray, List.set_cons_zero, List.set_cons_succ]
        rfl
      refine pure_ (i := 3) (N := some 45) (v := ?_) (a' := ?_) #[true, true, true, true, false, false, false, false, false, false, false, false, false] rfl rfl (by kernel_rfl) (fun _ _ _ h => h) (Or.inl ⟨by rfl, ?_⟩) ?_ ?_
      rotate_left
      · intro w'
        go_simp
        with_reducible rfl
      rotate_left
      · simp only [Act.put, List.setIfInBounds_toArray, List.set_cons_zero, List.set_cons_succ]
        rfl
      refine take_ (i := 4) (N := some 46) (v := ?_) (a' := ?_) #[true, true, true, true, true, false, false, false, false, false, false, false, false] rfl rfl (by kernel_rfl) (fun _ _ _ h => h) (Or.inl ⟨by rfl, ?_⟩) hHeld ?_ ?_
      rotate_left
      · rintro w' ⟨s0, s1, s2⟩
        go_simp
        with_reducible rfl
      rotate_left
      · simp only [Act.put, List.setIfInBounds_toArray, List.set_cons_zero, List.set_cons_succ]
        rfl
      refine pure_ (i := 5) (N := some 47) (v := ?_) (a' := ?_) #[true, true, true, true, true, true, false, false, false, false, false, false, false] rfl rfl (by kernel_rfl) (fun _ _ _ h => h) (Or.inl ⟨by rfl, ?_⟩) ?_ ?_
      rotate_left
      · intro w'
        go_simp
        with_reducible rfl
      rotate_left
      · simp only [Act.put, List.setIfInBounds_toArray, List.set_cons_zero, List.set_cons_succ]
        rfl
      refine pure_ (i := 6) (N := some 48) (v := ?_) (a' := ?_) #[true, true, true, true, true, true, true, false, false, false, false, false, false] rfl rfl (by kernel_rfl) (fun _ _ _ h => h) (Or.inl ⟨by rfl, ?_⟩) ?_ ?_
      rotate_left
      · intro w'
        go_simp
        with_reducible rfl
      rotate_left
      · simp only [Act.put, List.setIfInBounds_toArray, List.set_cons_zero, List.set_cons_succ]
        rfl
      refine pure_ (i := 7) (N := some 49) (v := ?_) (a' := ?_) #[true, true, true, true, true, true, true, true, false, false, false, false, false] rfl rfl (by kernel_rfl) (fun _ _ _ h => h) (Or.inl ⟨by rfl, ?_⟩) ?_ ?_
      rotate_left
      · intro w'
        go_simp
        with_reducible rfl
      rotate_left
      · simp only [Act.put, List.setIfInBounds_toArray, List.set_cons_zero, List.set_cons_succ]
        rfl
      refine pure_ (i := 8) (N := some 50) (v := ?_) (a' := ?_) #[true, true, true, true, true, true, true, true, true, false, false, false, false] rfl rfl (by kernel_rfl) (fun _ _ _ h => h) (Or.inl ⟨by rfl, ?_⟩) ?_ ?_
      rotate_left
      · intro w'
        go_simp
        with_reducible rfl
      rotate_left
      · simp only [Act.put, List.setIfInBounds_toArray, List.set_cons_zero, List.set_cons_succ]
        rfl
      refine pure_ (i := 9) (N := some 51) (v := ?_) (a' := ?_) #[true, true, true, true, true, true, true, true, true, true, false, false, false] rfl rfl (by kernel_rfl) (fun _ _ _ h => h) (Or.inl ⟨by rfl, ?_⟩) ?_ ?_
      rotate_left
      · intro w'
        go_simp
        with_reducible rfl
      rotate_left
      · simp only [Act.put, List.setIfInBounds_toArray, List.set_cons_zero, List.set_cons_succ]
        rfl
      refine take_ (i := 10) (N := some 52) (v := ?_) (a' := ?_) #[true, true, true, true, true, true, true, true, true, true, true, false, false] rfl rfl (by kernel_rfl) (fun _ _ _ h => h) (Or.inl ⟨by rfl, ?_⟩) hHeld ?_ ?_
      rotate_left
      · rintro w' ⟨s0, s1, s2⟩
        go_simp
        with_reducible rfl
      rotate_left
      · simp only [Act.put, List.setIfInBounds_toArray, List.set_cons_zero, List.set_cons_succ]
        rfl
      refine one_ (i := 11) (N := some 53) #[true, true, true, true, true, true, true, true, true, true, true, true, false] rfl rfl (by kernel_rfl) (by decide) (fun K hK => ?_)
      refine goes_ Try.func47 (by kernel_rfl) rfl #[.slice A0 y.length c0, .slice B0 y.length d0] (by rfl) rfl rfl (by simp only [List.map_toArray, List.map_cons, List.map_nil]; rfl) ?_
      refine (HY.out _ HBW.out).mono ?_
      rintro e w5 ⟨rfl, hb⟩
      have HB5 : Hid (Below wr.heap.size wr w5) := HBW.out.trans (hb.out.mono HBW.out.size)
      refine ⟨_, rfl, ?_⟩
      refine hK.out _ _ ⟨pw_cell_below hb.out hHeld.1, pw_cell_below hb.out hHeld.2.1, pw_cell_below hb.out hHeld.2.2⟩ (fun hHeld => ?_)
      clear hK K hb
      refine norm_ (a' := ?_) ?_ ?_
      rotate_left
      · show Act.put _ (some 53) _ = _
        simp only [Act.put, List.setIfInBounds_toArray, List.set_cons_zero, List.set_cons_succ]
        rfl
      refine pure_ (i := 12) (N := some 54) (v := ?_) (a' := ?_) #[true, true, true, true, true, true, true, true, true, true, true, true, true] rfl rfl (by kernel_rfl) (fun _ _ _ h => h) (Or.inl ⟨by rfl, ?_⟩) ?_ ?_
      rotate_left
      · intro w'
        go_simp
        with_reducible rfl
      rotate_left
      · simp only [Act.put, List.setIfInBounds_toArray, List.set_cons_zero, List.set_cons_succ]
        rfl
      refine done_ (by kernel_rfl) ?_
      go_wp2
      go_roundw
      case rel => exact ⟨k + 1, by omega, by go_num, Lib.hid (HB.out.trans (HB5.out.mono HB.out.size)), Lib.hid ((HB5.out.block _ (blk_lt HG.out)).trans HG.out)⟩
      case measure => simp [intOf]; omega
    · go_wp2
      go_ret
      exact ⟨rfl, HB⟩
end Go.Proofs.Ytomfknblehkocaa.C
