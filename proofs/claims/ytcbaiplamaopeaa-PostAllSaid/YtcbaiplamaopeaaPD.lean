/- New. -/
import Derived.Test.YtcbaiplamaopeaaPC
namespace Go.Proofs.Ytcbaiplamaopeaa.PPostShots
open Go.RowKit Go.Conc Go.Proofs.YtcbaiplamaopeaaW.PrintWords Go.Proofs.YtcbaiplamaopeaaW.PrintLast Go.Proofs.Ytcbaiplamaopeaa.PPost
set_option linter.unusedVariables false
set_option linter.unusedSimpArgs false

set_option maxRecDepth 100000 in
set_option maxHeartbeats 4000000 in
theorem new8_bad0 (tasks first sum : Int) (w : World) (h0 : decide (tasks < 1) = true) : Calls Try.prog 8 #[.int .i64 tasks, .int .i64 first, .int .u32 sum] w fun e w' => e = .returned (.tuple #[.pointer none, .int .i64 140]) ∧ w = w' := by
  go_enter Try.func8, Try.ntmps8
  go_wp2_with (fail)
  go_ret2
  exact ⟨rfl, rfl⟩
set_option maxRecDepth 100000 in
set_option maxHeartbeats 4000000 in
theorem new8_bad1 (tasks first sum : Int) (w : World) (h0 : decide (tasks < 1) = false) (h1 : decide (12 < tasks) = true) : Calls Try.prog 8 #[.int .i64 tasks, .int .i64 first, .int .u32 sum] w fun e w' => e = .returned (.tuple #[.pointer none, .int .i64 140]) ∧ w = w' := by
  go_enter Try.func8, Try.ntmps8
  go_wp2_with (fail)
  go_ret2
  exact ⟨rfl, rfl⟩
set_option maxRecDepth 100000 in
set_option maxHeartbeats 4000000 in
theorem new8_bad2 (tasks first sum : Int) (w : World) (h0 : decide (tasks < 1) = false) (h1 : decide (12 < tasks) = false) (h2 : decide (first < 1) = true) : Calls Try.prog 8 #[.int .i64 tasks, .int .i64 first, .int .u32 sum] w fun e w' => e = .returned (.tuple #[.pointer none, .int .i64 140]) ∧ w = w' := by
  go_enter Try.func8, Try.ntmps8
  go_wp2_with (fail)
  go_ret2
  exact ⟨rfl, rfl⟩
set_option maxRecDepth 100000 in
set_option maxHeartbeats 4000000 in
theorem new8_bad3 (tasks first sum : Int) (w : World) (h0 : decide (tasks < 1) = false) (h1 : decide (12 < tasks) = false) (h2 : decide (first < 1) = false) (h3 : decide (10000 < first) = true) : Calls Try.prog 8 #[.int .i64 tasks, .int .i64 first, .int .u32 sum] w fun e w' => e = .returned (.tuple #[.pointer none, .int .i64 140]) ∧ w = w' := by
  go_enter Try.func8, Try.ntmps8
  go_wp2_with (fail)
  go_ret2
  exact ⟨rfl, rfl⟩
theorem new8_no (tasks first sum : Int) (w : World) (h : tasks < 1 ∨ 12 < tasks ∨ first < 1 ∨ 10000 < first) : Calls Try.prog 8 #[.int .i64 tasks, .int .i64 first, .int .u32 sum] w fun e w' => e = .returned (.tuple #[.pointer none, .int .i64 140]) ∧ w = w' := by
  by_cases h0 : tasks < 1
  · exact new8_bad0 tasks first sum w (by simpa using h0)
  by_cases h1 : 12 < tasks
  · exact new8_bad1 tasks first sum w (by simpa using h0) (by simpa using h1)
  by_cases h2 : first < 1
  · exact new8_bad2 tasks first sum w (by simpa using h0) (by simpa using h1) (by simpa using h2)
  exact new8_bad3 tasks first sum w (by simpa using h0) (by simpa using h1) (by simpa using h2) (by simp; omega)
theorem info78 : (Try.prog.info? 78).map (fun i => (i.zero, i.size, i.bytes)) = some (some (.agg #[(.int .i64 0), (.int .i64 0), (.slice none 0 0), (.slice none 0 0), (.slice none 0 0)]), 5, 88) := by kernel_rfl
def PS.new (n : Nat) (first sum : Int) : PS := ⟨n, sum, first, 0, fun _ => 0, List.replicate n 0, List.replicate n z40, []⟩
theorem PS.new_ok (n : Nat) (first sum : Int) (h1 : 1 ≤ n) (h2 : n ≤ 12) (h3 : 1 ≤ first) (h4 : first ≤ 10000) : (PS.new n first sum).Ok :=
  ⟨h1, h2, h3, h4, Int.le_refl _, by show (0 : Int) < first; omega, by simp [PS.new], by simp [PS.new], by simp [PS.new], fun e he => by cases he⟩
theorem MapIs.of_empty {w : World} {b : Nat} (h : w.heap[b]? = some (.map #[] 0)) : MapIs Try.prog 3 w b 0 (fun _ => 0) := by
  obtain ⟨es, ⟨e, clock, h1, h2, h3, h4⟩, h5⟩ := MapIs.made Try.prog 3 w
  rw [blk_new] at h1
  cases h1
  exact ⟨es, ⟨_, _, h, h2, h3, h4⟩, h5⟩
theorem cells_made (n : Nat) : madeCells #[.int .i64 0] n = whC (List.replicate n 0) := by
  apply Array.ext'
  rw [toList_madeCells_one]
  simp [whC]
theorem cells_made4 : ∀ n : Nat, (cellsP (List.replicate n (z40, [.int .i64 0, .slice none 0 0, .slice none 0 0, .slice none 0 0]))).length = n * 4
  | 0 => rfl
  | n + 1 => by
    rw [List.replicate_succ]
    show (_ ++ cellsP _).length = _
    rw [List.length_append, cells_made4 n]
    simp
    omega
theorem parts_made (n : Nat) : madeCells (Value.agg #[.int .i64 0, .slice none 0 0, .slice none 0 0, .slice none 0 0]).cells (n * 4) = (cellsP (List.replicate n (z40, [.int .i64 0, .slice none 0 0, .slice none 0 0, .slice none 0 0]))).toArray := by
  apply Array.ext
  · rw [size_madeCells, List.size_toArray, cells_made4]
  · intro i h1 h2
    rw [size_madeCells] at h1
    have h3 : i / 4 < n := by omega
    have h4 := cellsP_get (List.replicate n (z40, [.int .i64 0, .slice none 0 0, .slice none 0 0, .slice none 0 0])) (i / 4) (i % 4) (z40, [.int .i64 0, .slice none 0 0, .slice none 0 0, .slice none 0 0]) (fun p hp => by rw [List.eq_of_mem_replicate hp]; rfl) (by simp [h3]) (Nat.mod_lt _ (by omega))
    rw [show i / 4 * 4 + i % 4 = i by omega] at h4
    have h5 : (cellsP (List.replicate n (z40, [.int .i64 0, .slice none 0 0, .slice none 0 0, .slice none 0 0])))[i]? = some (([.int .i64 0, .slice none 0 0, .slice none 0 0, .slice none 0 0] : List Value).getD (i % 4) (.int .i64 0)) := by
      rw [h4]
      have : i % 4 < 4 := Nat.mod_lt _ (by omega)
      rw [List.getD_eq_getElem?_getD, List.getElem?_eq_getElem (by simpa using this)]
      rfl
    have h6 := (List.getElem?_eq_some_iff.1 h5).2
    refine Eq.trans ?_ h6.symm
    simp [madeCells, Value.cells]
    have : i % 4 = 0 ∨ i % 4 = 1 ∨ i % 4 = 2 ∨ i % 4 = 3 := by omega
    rcases this with e | e | e | e <;> simp [e]
set_option maxRecDepth 100000 in
set_option maxHeartbeats 8000000 in
theorem new8_ok (n : Nat) (first sum : Int) (own : Nat → Nat) (w : World) (tg : Nat) (h0 : tg ≠ 0) (h1 : 1 ≤ n) (h2 : n ≤ 12) (h3 : 1 ≤ first) (h4 : first ≤ 10000) :
    Calls Try.prog 8 #[.int .i64 n, .int .i64 first, .int .u32 sum] w fun e w' => ∃ g own' bm c bw bp pps, e = .returned (.tuple #[.pointer (some ⟨g, 0, none⟩), .int .i64 0]) ∧ Hid (PostAt own' w' g tg (PS.new n first sum) bm c bw bp 0 0 0 pps []) ∧ Hid (Upd (fun _ => False) own w own' w') ∧ w.heap.size ≤ g ∧ ∀ k, w.heap.size ≤ k → own' k = tg := by
  have c0 : decide ((n : Int) < 1) = false := by simp; omega
  have c1 : decide (12 < (n : Int)) = false := by simp; omega
  have c2 : decide (first < 1) = false := by simp; omega
  have c3 : decide (10000 < first) = false := by simp; omega
  have HOK := Lib.hid (PS.new_ok n first sum h1 h2 h3 h4)
  have HMK : Hid (∀ W : World, (Instr.makeChan 73 (.int .i64 (n : Int))).run Try.prog W = .ok (.chan (some W.heap.size)) (W.alloc (.chan n #[] false 0 0 false))) := Lib.hid (fun W => by
    obtain ⟨i0, hi, -, -, hz2⟩ := info_parts info78
    exact run_makeChan (P := Try.prog) (w := W) Try.underlying73 hi .i64 n (by omega) (by rw [hz2]; omega))
  have HMR : Hid (∀ W : World, (Instr.makeSlice 23 (.int .i64 (n : Int)) (.int .i64 (n : Int))).run Try.prog W = .ok (.slice (some ⟨W.heap.size, 0, none⟩) n n) (W.alloc (.cells (madeCells #[.int .i64 0] n) 3))) := Lib.hid (fun W => run_make_row' (P := Try.prog) 23 3 (.int .i64 0) 8 Try.underlying23 info3 rfl .i64 .i64 n (by omega) (by omega) W)
  have HMP : Hid (∀ W : World, (Instr.makeSlice 42 (.int .i64 (n : Int)) (.int .i64 (n : Int))).run Try.prog W = .ok (.slice (some ⟨W.heap.size, 0, none⟩) n n) (W.alloc (.cells (cellsP (List.replicate n (z40, [.int .i64 0, .slice none 0 0, .slice none 0 0, .slice none 0 0]))).toArray 40))) := Lib.hid (fun W => by
    obtain ⟨i0, hi, hz0, hz1, hz2⟩ := info_parts info40
    have := run_makeSlice (P := Try.prog) W 42 40 i0 _ Try.underlying42 hi hz0 .i64 .i64 n n
    rw [hz1, hz2] at this
    simp only [Int.toNat_natCast] at this
    rw [this (by omega) (by omega) (by omega) (by omega) (by omega), parts_made])
  have Hn := Lib.hid (And.intro h1 h2)
  clear h0 h1 h2 h3 h4
  go_enter Try.func8, Try.ntmps8
  go_upto_region 3 with (fail)
  go_cut [8] (fun v8 wx => ∃ g bm c bw, v8 = .pointer (some ⟨g, 0, none⟩) ∧ Hid (wx.heap[g]? = some (.cells #[.int .u32 sum, .int .i64 first, .int .i64 0, .map (some bm), .chan (some c), .slice (some ⟨bw, 0, none⟩) n n, .slice none 0 0] 75 (0, 0))) ∧ Hid (wx.heap[bm]? = some (.map #[] 0)) ∧ Hid (wx.heap[c]? = some (.chan n #[] false 0 0 false)) ∧ Hid (wx.heap[bw]? = some (.cells (madeCells #[.int .i64 0] n) 3 (0, 0))) ∧ Hid (Below w.heap.size w wx) ∧ Hid (w.heap.size ≤ g ∧ w.heap.size ≤ bm ∧ w.heap.size ≤ c ∧ w.heap.size ≤ bw))
  case first =>
    refine start_ (n := 10) (S := (fun w' => True)) (ds := []) #[false, false, false, false, false, false, false, false, false, false] (by kernel_rfl) rfl rfl trivial (fun hHeld => ?_)
    have HB0 : Hid (Below w.heap.size w w.drew) := Lib.hid (Below.refl _ _).drew
    generalize w.drew = W0 at HB0 ⊢
    refine pure_ (i := 0) (N := some 23) (v := ?_) (a' := ?_) #[true, false, false, false, false, false, false, false, false, false] rfl rfl (by kernel_rfl) (fun _ _ _ h => h) (Or.inl ⟨by rfl, ?_⟩) ?_ ?_
    rotate_left
    · intro w'
      go_simp
      with_reducible rfl
    rotate_left
    · simp only [Act.put, List.setIfInBounds_toArray, List.set_cons_zero, List.set_cons_succ]
      rfl
    refine pure_ (i := 1) (N := some 24) (v := ?_) (a' := ?_) #[true, true, false, false, false, false, false, false, false, false] rfl rfl (by kernel_rfl) (fun _ _ _ h => h) (Or.inl ⟨by rfl, ?_⟩) ?_ ?_
    rotate_left
    · intro w'
      go_simp
      with_reducible rfl
    rotate_left
    · simp only [Act.put, List.setIfInBounds_toArray, List.set_cons_zero, List.set_cons_succ]
      rfl
    refine pure_ (i := 3) (N := some 26) (v := ?_) (a' := ?_) #[true, true, false, true, false, false, false, false, false, false] rfl rfl (by kernel_rfl) (fun _ _ _ h => h) (Or.inl ⟨by rfl, ?_⟩) ?_ ?_
    rotate_left
    · intro w'
      go_simp
      with_reducible rfl
    rotate_left
    · simp only [Act.put, List.setIfInBounds_toArray, List.set_cons_zero, List.set_cons_succ]
      rfl
    refine pure_ (i := 5) (N := some 28) (v := ?_) (a' := ?_) #[true, true, false, true, false, true, false, false, false, false] rfl rfl (by kernel_rfl) (fun _ _ _ h => h) (Or.inl ⟨by rfl, ?_⟩) ?_ ?_
    rotate_left
    · intro w'
      go_simp
      with_reducible rfl
    rotate_left
    · simp only [Act.put, List.setIfInBounds_toArray, List.set_cons_zero, List.set_cons_succ]
      rfl
    refine three_ (i := 2) (j := 4) (k := 6) (Ni := some 25) (Nj := some 27) (Nk := some 29) #[true, true, true, true, false, true, false, false, false, false] #[true, true, false, true, true, true, false, false, false, false] #[true, true, false, true, false, true, true, false, false, false] rfl rfl rfl rfl rfl rfl (by kernel_rfl) (by decide) (by decide) (by decide) (fun K hK => ?_) (fun K hK => ?_) (fun K hK => ?_)
    · refine value_ (w1 := (W0.alloc (.map #[] 0))) (v := .map (some W0.heap.size)) (by rfl) rfl (by have := run_makeMap (P := Try.prog) (w := W0) 72; go_simp) ?_
      have HM1 : Hid ((W0.alloc (.map #[] 0)).heap[W0.heap.size]? = some (.map #[] 0)) := Lib.hid (blk_new _ _)
      have HB1 : Hid (Below w.heap.size w (W0.alloc (.map #[] 0))) := Lib.hid (HB0.out.alloc HB0.out.size _)
      have Hx2 : Hid (w.heap.size ≤ W0.heap.size) := Lib.hid HB0.out.size
      refine hK.out _ _ trivial (fun hHeld => ?_)
      clear hK K  HB0
      generalize (W0.alloc (.map #[] 0)) = W1 at HM1 HB1 ⊢
      generalize W0.heap.size = bm at *
      refine norm_ (a' := ?_) ?_ ?_
      rotate_left
      · show Act.put _ (some 25) _ = _
        simp only [Act.put, List.setIfInBounds_toArray, List.set_cons_zero, List.set_cons_succ]
        rfl
      refine two_ (i := 4) (j := 6) (Ni := some 27) (Nj := some 29) #[true, true, true, true, true, true, false, false, false, false] #[true, true, true, true, false, true, true, false, false, false] rfl rfl rfl rfl (by kernel_rfl) (by decide) (by decide) (fun K hK => ?_) (fun K hK => ?_)
      · refine value_ (w1 := (W1.alloc (.chan n #[] false 0 0 false))) (v := .chan (some W1.heap.size)) (by rfl) rfl (by have := HMK.out W1; go_simp) ?_
        have HC2 : Hid ((W1.alloc (.chan n #[] false 0 0 false)).heap[W1.heap.size]? = some (.chan n #[] false 0 0 false)) := Lib.hid (blk_new _ _)
        have HM2 : Hid ((W1.alloc (.chan n #[] false 0 0 false)).heap[bm]? = some (.map #[] 0)) := Lib.hid (blk_alloc HM1.out _)
        have HB2 : Hid (Below w.heap.size w (W1.alloc (.chan n #[] false 0 0 false))) := Lib.hid (HB1.out.alloc HB1.out.size _)
        have Hx4 : Hid (w.heap.size ≤ W1.heap.size) := Lib.hid HB1.out.size
        refine hK.out _ _ trivial (fun hHeld => ?_)
        clear hK K HM1 HB1
        generalize (W1.alloc (.chan n #[] false 0 0 false)) = W2 at HM2 HC2 HB2 ⊢
        generalize W1.heap.size = c at *
        refine norm_ (a' := ?_) ?_ ?_
        rotate_left
        · show Act.put _ (some 27) _ = _
          simp only [Act.put, List.setIfInBounds_toArray, List.set_cons_zero, List.set_cons_succ]
          rfl
        refine one_ (i := 6) (N := some 29) #[true, true, true, true, true, true, true, false, false, false] rfl rfl (by kernel_rfl) (by decide) (fun K hK => ?_)
        refine value_ (w1 := (W2.alloc (.cells (madeCells #[.int .i64 0] n) 3))) (v := .slice (some ⟨W2.heap.size, 0, none⟩) n n) (by rfl) rfl (by have := HMR.out W2; go_simp) ?_
        have HW3 : Hid ((W2.alloc (.cells (madeCells #[.int .i64 0] n) 3)).heap[W2.heap.size]? = some (.cells (madeCells #[.int .i64 0] n) 3 (0, 0))) := Lib.hid (blk_new _ _)
        have HM3 : Hid ((W2.alloc (.cells (madeCells #[.int .i64 0] n) 3)).heap[bm]? = some (.map #[] 0)) := Lib.hid (blk_alloc HM2.out _)
        have HC3 : Hid ((W2.alloc (.cells (madeCells #[.int .i64 0] n) 3)).heap[c]? = some (.chan n #[] false 0 0 false)) := Lib.hid (blk_alloc HC2.out _)
        have HB3 : Hid (Below w.heap.size w (W2.alloc (.cells (madeCells #[.int .i64 0] n) 3))) := Lib.hid (HB2.out.alloc HB2.out.size _)
        have Hx6 : Hid (w.heap.size ≤ W2.heap.size) := Lib.hid HB2.out.size
        refine hK.out _ _ trivial (fun hHeld => ?_)
        clear hK K HM2 HC2 HB2
        generalize (W2.alloc (.cells (madeCells #[.int .i64 0] n) 3)) = W3 at HM3 HC3 HW3 HB3 ⊢
        generalize W2.heap.size = bw at *
        refine norm_ (a' := ?_) ?_ ?_
        rotate_left
        · show Act.put _ (some 29) _ = _
          simp only [Act.put, List.setIfInBounds_toArray, List.set_cons_zero, List.set_cons_succ]
          rfl
        refine pure_ (i := 7) (N := some 30) (v := ?_) (a' := ?_) #[true, true, true, true, true, true, true, true, false, false] rfl rfl (by kernel_rfl) (fun _ _ _ h => h) (Or.inl ⟨by rfl, ?_⟩) ?_ ?_
        rotate_left
        · intro w'
          go_simp
          with_reducible rfl
        rotate_left
        · simp only [Act.put, List.setIfInBounds_toArray, List.set_cons_zero, List.set_cons_succ]
          rfl
        refine one_ (i := 8) (N := some 31) #[true, true, true, true, true, true, true, true, true, false] rfl rfl (by kernel_rfl) (by decide) (fun K hK => ?_)
        refine value_ (w1 := (W3.alloc (.cells #[.int .u32 sum, .int .i64 first, .int .i64 0, .map (some bm), .chan (some c), .slice (some ⟨bw, 0, none⟩) n n, .slice none 0 0] 75))) (v := .pointer (some ⟨W3.heap.size, 0, none⟩)) (by rfl) rfl (by go_simp) ?_
        refine hK.out _ _ trivial (fun hHeld => ?_)
        clear hK K
        refine norm_ (a' := ?_) ?_ ?_
        rotate_left
        · show Act.put _ (some 31) _ = _
          simp only [Act.put, List.setIfInBounds_toArray, List.set_cons_zero, List.set_cons_succ]
          rfl
        refine pure_ (i := 9) (N := some 8) (v := ?_) (a' := ?_) #[true, true, true, true, true, true, true, true, true, true] rfl rfl (by kernel_rfl) (fun _ _ _ h => h) (Or.inl ⟨by rfl, ?_⟩) ?_ ?_
        rotate_left
        · intro w'
          go_simp
          with_reducible rfl
        rotate_left
        · simp only [Act.put, List.setIfInBounds_toArray, List.set_cons_zero, List.set_cons_succ]
          rfl
        refine done_ (by kernel_rfl) ?_
        go_wp2_with (fail)
        go_meet
        exact ⟨W3.heap.size, bm, c, bw, rfl, Lib.hid (blk_new _ _), Lib.hid (blk_alloc HM3.out _), Lib.hid (blk_alloc HC3.out _), Lib.hid (blk_alloc HW3.out _), Lib.hid (HB3.out.alloc HB3.out.size _), Lib.hid ⟨HB3.out.size, Hx2.out, Hx4.out, Hx6.out⟩⟩
      · refine value_ (w1 := (W1.alloc (.cells (madeCells #[.int .i64 0] n) 3))) (v := .slice (some ⟨W1.heap.size, 0, none⟩) n n) (by rfl) rfl (by have := HMR.out W1; go_simp) ?_
        have HW2 : Hid ((W1.alloc (.cells (madeCells #[.int .i64 0] n) 3)).heap[W1.heap.size]? = some (.cells (madeCells #[.int .i64 0] n) 3 (0, 0))) := Lib.hid (blk_new _ _)
        have HM2 : Hid ((W1.alloc (.cells (madeCells #[.int .i64 0] n) 3)).heap[bm]? = some (.map #[] 0)) := Lib.hid (blk_alloc HM1.out _)
        have HB2 : Hid (Below w.heap.size w (W1.alloc (.cells (madeCells #[.int .i64 0] n) 3))) := Lib.hid (HB1.out.alloc HB1.out.size _)
        have Hx6 : Hid (w.heap.size ≤ W1.heap.size) := Lib.hid HB1.out.size
        refine hK.out _ _ trivial (fun hHeld => ?_)
        clear hK K HM1 HB1
        generalize (W1.alloc (.cells (madeCells #[.int .i64 0] n) 3)) = W2 at HM2 HW2 HB2 ⊢
        generalize W1.heap.size = bw at *
        refine norm_ (a' := ?_) ?_ ?_
        rotate_left
        · show Act.put _ (some 29) _ = _
          simp only [Act.put, List.setIfInBounds_toArray, List.set_cons_zero, List.set_cons_succ]
          rfl
        refine one_ (i := 4) (N := some 27) #[true, true, true, true, true, true, true, false, false, false] rfl rfl (by kernel_rfl) (by decide) (fun K hK => ?_)
        refine value_ (w1 := (W2.alloc (.chan n #[] false 0 0 false))) (v := .chan (some W2.heap.size)) (by rfl) rfl (by have := HMK.out W2; go_simp) ?_
        have HC3 : Hid ((W2.alloc (.chan n #[] false 0 0 false)).heap[W2.heap.size]? = some (.chan n #[] false 0 0 false)) := Lib.hid (blk_new _ _)
        have HM3 : Hid ((W2.alloc (.chan n #[] false 0 0 false)).heap[bm]? = some (.map #[] 0)) := Lib.hid (blk_alloc HM2.out _)
        have HW3 : Hid ((W2.alloc (.chan n #[] false 0 0 false)).heap[bw]? = some (.cells (madeCells #[.int .i64 0] n) 3 (0, 0))) := Lib.hid (blk_alloc HW2.out _)
        have HB3 : Hid (Below w.heap.size w (W2.alloc (.chan n #[] false 0 0 false))) := Lib.hid (HB2.out.alloc HB2.out.size _)
        have Hx4 : Hid (w.heap.size ≤ W2.heap.size) := Lib.hid HB2.out.size
        refine hK.out _ _ trivial (fun hHeld => ?_)
        clear hK K HM2 HW2 HB2
        generalize (W2.alloc (.chan n #[] false 0 0 false)) = W3 at HM3 HW3 HC3 HB3 ⊢
        generalize W2.heap.size = c at *
        refine norm_ (a' := ?_) ?_ ?_
        rotate_left
        · show Act.put _ (some 27) _ = _
          simp only [Act.put, List.setIfInBounds_toArray, List.set_cons_zero, List.set_cons_succ]
          rfl
        refine pure_ (i := 7) (N := some 30) (v := ?_) (a' := ?_) #[true, true, true, true, true, true, true, true, false, false] rfl rfl (by kernel_rfl) (fun _ _ _ h => h) (Or.inl ⟨by rfl, ?_⟩) ?_ ?_
        rotate_left
        · intro w'
          go_simp
          with_reducible rfl
        rotate_left
        · simp only [Act.put, List.setIfInBounds_toArray, List.set_cons_zero, List.set_cons_succ]
          rfl
        refine one_ (i := 8) (N := some 31) #[true, true, true, true, true, true, true, true, true, false] rfl rfl (by kernel_rfl) (by decide) (fun K hK => ?_)
        refine value_ (w1 := (W3.alloc (.cells #[.int .u32 sum, .int .i64 first, .int .i64 0, .map (some bm), .chan (some c), .slice (some ⟨bw, 0, none⟩) n n, .slice none 0 0] 75))) (v := .pointer (some ⟨W3.heap.size, 0, none⟩)) (by rfl) rfl (by go_simp) ?_
        refine hK.out _ _ trivial (fun hHeld => ?_)
        clear hK K
        refine norm_ (a' := ?_) ?_ ?_
        rotate_left
        · show Act.put _ (some 31) _ = _
          simp only [Act.put, List.setIfInBounds_toArray, List.set_cons_zero, List.set_cons_succ]
          rfl
        refine pure_ (i := 9) (N := some 8) (v := ?_) (a' := ?_) #[true, true, true, true, true, true, true, true, true, true] rfl rfl (by kernel_rfl) (fun _ _ _ h => h) (Or.inl ⟨by rfl, ?_⟩) ?_ ?_
        rotate_left
        · intro w'
          go_simp
          with_reducible rfl
        rotate_left
        · simp only [Act.put, List.setIfInBounds_toArray, List.set_cons_zero, List.set_cons_succ]
          rfl
        refine done_ (by kernel_rfl) ?_
        go_wp2_with (fail)
        go_meet
        exact ⟨W3.heap.size, bm, c, bw, rfl, Lib.hid (blk_new _ _), Lib.hid (blk_alloc HM3.out _), Lib.hid (blk_alloc HC3.out _), Lib.hid (blk_alloc HW3.out _), Lib.hid (HB3.out.alloc HB3.out.size _), Lib.hid ⟨HB3.out.size, Hx2.out, Hx4.out, Hx6.out⟩⟩
    · refine value_ (w1 := (W0.alloc (.chan n #[] false 0 0 false))) (v := .chan (some W0.heap.size)) (by rfl) rfl (by have := HMK.out W0; go_simp) ?_
      have HC1 : Hid ((W0.alloc (.chan n #[] false 0 0 false)).heap[W0.heap.size]? = some (.chan n #[] false 0 0 false)) := Lib.hid (blk_new _ _)
      have HB1 : Hid (Below w.heap.size w (W0.alloc (.chan n #[] false 0 0 false))) := Lib.hid (HB0.out.alloc HB0.out.size _)
      have Hx4 : Hid (w.heap.size ≤ W0.heap.size) := Lib.hid HB0.out.size
      refine hK.out _ _ trivial (fun hHeld => ?_)
      clear hK K  HB0
      generalize (W0.alloc (.chan n #[] false 0 0 false)) = W1 at HC1 HB1 ⊢
      generalize W0.heap.size = c at *
      refine norm_ (a' := ?_) ?_ ?_
      rotate_left
      · show Act.put _ (some 27) _ = _
        simp only [Act.put, List.setIfInBounds_toArray, List.set_cons_zero, List.set_cons_succ]
        rfl
      refine two_ (i := 2) (j := 6) (Ni := some 25) (Nj := some 29) #[true, true, true, true, true, true, false, false, false, false] #[true, true, false, true, true, true, true, false, false, false] rfl rfl rfl rfl (by kernel_rfl) (by decide) (by decide) (fun K hK => ?_) (fun K hK => ?_)
      · refine value_ (w1 := (W1.alloc (.map #[] 0))) (v := .map (some W1.heap.size)) (by rfl) rfl (by have := run_makeMap (P := Try.prog) (w := W1) 72; go_simp) ?_
        have HM2 : Hid ((W1.alloc (.map #[] 0)).heap[W1.heap.size]? = some (.map #[] 0)) := Lib.hid (blk_new _ _)
        have HC2 : Hid ((W1.alloc (.map #[] 0)).heap[c]? = some (.chan n #[] false 0 0 false)) := Lib.hid (blk_alloc HC1.out _)
        have HB2 : Hid (Below w.heap.size w (W1.alloc (.map #[] 0))) := Lib.hid (HB1.out.alloc HB1.out.size _)
        have Hx2 : Hid (w.heap.size ≤ W1.heap.size) := Lib.hid HB1.out.size
        refine hK.out _ _ trivial (fun hHeld => ?_)
        clear hK K HC1 HB1
        generalize (W1.alloc (.map #[] 0)) = W2 at HC2 HM2 HB2 ⊢
        generalize W1.heap.size = bm at *
        refine norm_ (a' := ?_) ?_ ?_
        rotate_left
        · show Act.put _ (some 25) _ = _
          simp only [Act.put, List.setIfInBounds_toArray, List.set_cons_zero, List.set_cons_succ]
          rfl
        refine one_ (i := 6) (N := some 29) #[true, true, true, true, true, true, true, false, false, false] rfl rfl (by kernel_rfl) (by decide) (fun K hK => ?_)
        refine value_ (w1 := (W2.alloc (.cells (madeCells #[.int .i64 0] n) 3))) (v := .slice (some ⟨W2.heap.size, 0, none⟩) n n) (by rfl) rfl (by have := HMR.out W2; go_simp) ?_
        have HW3 : Hid ((W2.alloc (.cells (madeCells #[.int .i64 0] n) 3)).heap[W2.heap.size]? = some (.cells (madeCells #[.int .i64 0] n) 3 (0, 0))) := Lib.hid (blk_new _ _)
        have HC3 : Hid ((W2.alloc (.cells (madeCells #[.int .i64 0] n) 3)).heap[c]? = some (.chan n #[] false 0 0 false)) := Lib.hid (blk_alloc HC2.out _)
        have HM3 : Hid ((W2.alloc (.cells (madeCells #[.int .i64 0] n) 3)).heap[bm]? = some (.map #[] 0)) := Lib.hid (blk_alloc HM2.out _)
        have HB3 : Hid (Below w.heap.size w (W2.alloc (.cells (madeCells #[.int .i64 0] n) 3))) := Lib.hid (HB2.out.alloc HB2.out.size _)
        have Hx6 : Hid (w.heap.size ≤ W2.heap.size) := Lib.hid HB2.out.size
        refine hK.out _ _ trivial (fun hHeld => ?_)
        clear hK K HC2 HM2 HB2
        generalize (W2.alloc (.cells (madeCells #[.int .i64 0] n) 3)) = W3 at HC3 HM3 HW3 HB3 ⊢
        generalize W2.heap.size = bw at *
        refine norm_ (a' := ?_) ?_ ?_
        rotate_left
        · show Act.put _ (some 29) _ = _
          simp only [Act.put, List.setIfInBounds_toArray, List.set_cons_zero, List.set_cons_succ]
          rfl
        refine pure_ (i := 7) (N := some 30) (v := ?_) (a' := ?_) #[true, true, true, true, true, true, true, true, false, false] rfl rfl (by kernel_rfl) (fun _ _ _ h => h) (Or.inl ⟨by rfl, ?_⟩) ?_ ?_
        rotate_left
        · intro w'
          go_simp
          with_reducible rfl
        rotate_left
        · simp only [Act.put, List.setIfInBounds_toArray, List.set_cons_zero, List.set_cons_succ]
          rfl
        refine one_ (i := 8) (N := some 31) #[true, true, true, true, true, true, true, true, true, false] rfl rfl (by kernel_rfl) (by decide) (fun K hK => ?_)
        refine value_ (w1 := (W3.alloc (.cells #[.int .u32 sum, .int .i64 first, .int .i64 0, .map (some bm), .chan (some c), .slice (some ⟨bw, 0, none⟩) n n, .slice none 0 0] 75))) (v := .pointer (some ⟨W3.heap.size, 0, none⟩)) (by rfl) rfl (by go_simp) ?_
        refine hK.out _ _ trivial (fun hHeld => ?_)
        clear hK K
        refine norm_ (a' := ?_) ?_ ?_
        rotate_left
        · show Act.put _ (some 31) _ = _
          simp only [Act.put, List.setIfInBounds_toArray, List.set_cons_zero, List.set_cons_succ]
          rfl
        refine pure_ (i := 9) (N := some 8) (v := ?_) (a' := ?_) #[true, true, true, true, true, true, true, true, true, true] rfl rfl (by kernel_rfl) (fun _ _ _ h => h) (Or.inl ⟨by rfl, ?_⟩) ?_ ?_
        rotate_left
        · intro w'
          go_simp
          with_reducible rfl
        rotate_left
        · simp only [Act.put, List.setIfInBounds_toArray, List.set_cons_zero, List.set_cons_succ]
          rfl
        refine done_ (by kernel_rfl) ?_
        go_wp2_with (fail)
        go_meet
        exact ⟨W3.heap.size, bm, c, bw, rfl, Lib.hid (blk_new _ _), Lib.hid (blk_alloc HM3.out _), Lib.hid (blk_alloc HC3.out _), Lib.hid (blk_alloc HW3.out _), Lib.hid (HB3.out.alloc HB3.out.size _), Lib.hid ⟨HB3.out.size, Hx2.out, Hx4.out, Hx6.out⟩⟩
      · refine value_ (w1 := (W1.alloc (.cells (madeCells #[.int .i64 0] n) 3))) (v := .slice (some ⟨W1.heap.size, 0, none⟩) n n) (by rfl) rfl (by have := HMR.out W1; go_simp) ?_
        have HW2 : Hid ((W1.alloc (.cells (madeCells #[.int .i64 0] n) 3)).heap[W1.heap.size]? = some (.cells (madeCells #[.int .i64 0] n) 3 (0, 0))) := Lib.hid (blk_new _ _)
        have HC2 : Hid ((W1.alloc (.cells (madeCells #[.int .i64 0] n) 3)).heap[c]? = some (.chan n #[] false 0 0 false)) := Lib.hid (blk_alloc HC1.out _)
        have HB2 : Hid (Below w.heap.size w (W1.alloc (.cells (madeCells #[.int .i64 0] n) 3))) := Lib.hid (HB1.out.alloc HB1.out.size _)
        have Hx6 : Hid (w.heap.size ≤ W1.heap.size) := Lib.hid HB1.out.size
        refine hK.out _ _ trivial (fun hHeld => ?_)
        clear hK K HC1 HB1
        generalize (W1.alloc (.cells (madeCells #[.int .i64 0] n) 3)) = W2 at HC2 HW2 HB2 ⊢
        generalize W1.heap.size = bw at *
        refine norm_ (a' := ?_) ?_ ?_
        rotate_left
        · show Act.put _ (some 29) _ = _
          simp only [Act.put, List.setIfInBounds_toArray, List.set_cons_zero, List.set_cons_succ]
          rfl
        refine one_ (i := 2) (N := some 25) #[true, true, true, true, true, true, true, false, false, false] rfl rfl (by kernel_rfl) (by decide) (fun K hK => ?_)
        refine value_ (w1 := (W2.alloc (.map #[] 0))) (v := .map (some W2.heap.size)) (by rfl) rfl (by have := run_makeMap (P := Try.prog) (w := W2) 72; go_simp) ?_
        have HM3 : Hid ((W2.alloc (.map #[] 0)).heap[W2.heap.size]? = some (.map #[] 0)) := Lib.hid (blk_new _ _)
        have HC3 : Hid ((W2.alloc (.map #[] 0)).heap[c]? = some (.chan n #[] false 0 0 false)) := Lib.hid (blk_alloc HC2.out _)
        have HW3 : Hid ((W2.alloc (.map #[] 0)).heap[bw]? = some (.cells (madeCells #[.int .i64 0] n) 3 (0, 0))) := Lib.hid (blk_alloc HW2.out _)
        have HB3 : Hid (Below w.heap.size w (W2.alloc (.map #[] 0))) := Lib.hid (HB2.out.alloc HB2.out.size _)
        have Hx2 : Hid (w.heap.size ≤ W2.heap.size) := Lib.hid HB2.out.size
        refine hK.out _ _ trivial (fun hHeld => ?_)
        clear hK K HC2 HW2 HB2
        generalize (W2.alloc (.map #[] 0)) = W3 at HC3 HW3 HM3 HB3 ⊢
        generalize W2.heap.size = bm at *
        refine norm_ (a' := ?_) ?_ ?_
        rotate_left
        · show Act.put _ (some 25) _ = _
          simp only [Act.put, List.setIfInBounds_toArray, List.set_cons_zero, List.set_cons_succ]
          rfl
        refine pure_ (i := 7) (N := some 30) (v := ?_) (a' := ?_) #[true, true, true, true, true, true, true, true, false, false] rfl rfl (by kernel_rfl) (fun _ _ _ h => h) (Or.inl ⟨by rfl, ?_⟩) ?_ ?_
        rotate_left
        · intro w'
          go_simp
          with_reducible rfl
        rotate_left
        · simp only [Act.put, List.setIfInBounds_toArray, List.set_cons_zero, List.set_cons_succ]
          rfl
        refine one_ (i := 8) (N := some 31) #[true, true, true, true, true, true, true, true, true, false] rfl rfl (by kernel_rfl) (by decide) (fun K hK => ?_)
        refine value_ (w1 := (W3.alloc (.cells #[.int .u32 sum, .int .i64 first, .int .i64 0, .map (some bm), .chan (some c), .slice (some ⟨bw, 0, none⟩) n n, .slice none 0 0] 75))) (v := .pointer (some ⟨W3.heap.size, 0, none⟩)) (by rfl) rfl (by go_simp) ?_
        refine hK.out _ _ trivial (fun hHeld => ?_)
        clear hK K
        refine norm_ (a' := ?_) ?_ ?_
        rotate_left
        · show Act.put _ (some 31) _ = _
          simp only [Act.put, List.setIfInBounds_toArray, List.set_cons_zero, List.set_cons_succ]
          rfl
        refine pure_ (i := 9) (N := some 8) (v := ?_) (a' := ?_) #[true, true, true, true, true, true, true, true, true, true] rfl rfl (by kernel_rfl) (fun _ _ _ h => h) (Or.inl ⟨by rfl, ?_⟩) ?_ ?_
        rotate_left
        · intro w'
          go_simp
          with_reducible rfl
        rotate_left
        · simp only [Act.put, List.setIfInBounds_toArray, List.set_cons_zero, List.set_cons_succ]
          rfl
        refine done_ (by kernel_rfl) ?_
        go_wp2_with (fail)
        go_meet
        exact ⟨W3.heap.size, bm, c, bw, rfl, Lib.hid (blk_new _ _), Lib.hid (blk_alloc HM3.out _), Lib.hid (blk_alloc HC3.out _), Lib.hid (blk_alloc HW3.out _), Lib.hid (HB3.out.alloc HB3.out.size _), Lib.hid ⟨HB3.out.size, Hx2.out, Hx4.out, Hx6.out⟩⟩
    · refine value_ (w1 := (W0.alloc (.cells (madeCells #[.int .i64 0] n) 3))) (v := .slice (some ⟨W0.heap.size, 0, none⟩) n n) (by rfl) rfl (by have := HMR.out W0; go_simp) ?_
      have HW1 : Hid ((W0.alloc (.cells (madeCells #[.int .i64 0] n) 3)).heap[W0.heap.size]? = some (.cells (madeCells #[.int .i64 0] n) 3 (0, 0))) := Lib.hid (blk_new _ _)
      have HB1 : Hid (Below w.heap.size w (W0.alloc (.cells (madeCells #[.int .i64 0] n) 3))) := Lib.hid (HB0.out.alloc HB0.out.size _)
      have Hx6 : Hid (w.heap.size ≤ W0.heap.size) := Lib.hid HB0.out.size
      refine hK.out _ _ trivial (fun hHeld => ?_)
      clear hK K  HB0
      generalize (W0.alloc (.cells (madeCells #[.int .i64 0] n) 3)) = W1 at HW1 HB1 ⊢
      generalize W0.heap.size = bw at *
      refine norm_ (a' := ?_) ?_ ?_
      rotate_left
      · show Act.put _ (some 29) _ = _
        simp only [Act.put, List.setIfInBounds_toArray, List.set_cons_zero, List.set_cons_succ]
        rfl
      refine two_ (i := 2) (j := 4) (Ni := some 25) (Nj := some 27) #[true, true, true, true, false, true, true, false, false, false] #[true, true, false, true, true, true, true, false, false, false] rfl rfl rfl rfl (by kernel_rfl) (by decide) (by decide) (fun K hK => ?_) (fun K hK => ?_)
      · refine value_ (w1 := (W1.alloc (.map #[] 0))) (v := .map (some W1.heap.size)) (by rfl) rfl (by have := run_makeMap (P := Try.prog) (w := W1) 72; go_simp) ?_
        have HM2 : Hid ((W1.alloc (.map #[] 0)).heap[W1.heap.size]? = some (.map #[] 0)) := Lib.hid (blk_new _ _)
        have HW2 : Hid ((W1.alloc (.map #[] 0)).heap[bw]? = some (.cells (madeCells #[.int .i64 0] n) 3 (0, 0))) := Lib.hid (blk_alloc HW1.out _)
        have HB2 : Hid (Below w.heap.size w (W1.alloc (.map #[] 0))) := Lib.hid (HB1.out.alloc HB1.out.size _)
        have Hx2 : Hid (w.heap.size ≤ W1.heap.size) := Lib.hid HB1.out.size
        refine hK.out _ _ trivial (fun hHeld => ?_)
        clear hK K HW1 HB1
        generalize (W1.alloc (.map #[] 0)) = W2 at HW2 HM2 HB2 ⊢
        generalize W1.heap.size = bm at *
        refine norm_ (a' := ?_) ?_ ?_
        rotate_left
        · show Act.put _ (some 25) _ = _
          simp only [Act.put, List.setIfInBounds_toArray, List.set_cons_zero, List.set_cons_succ]
          rfl
        refine one_ (i := 4) (N := some 27) #[true, true, true, true, true, true, true, false, false, false] rfl rfl (by kernel_rfl) (by decide) (fun K hK => ?_)
        refine value_ (w1 := (W2.alloc (.chan n #[] false 0 0 false))) (v := .chan (some W2.heap.size)) (by rfl) rfl (by have := HMK.out W2; go_simp) ?_
        have HC3 : Hid ((W2.alloc (.chan n #[] false 0 0 false)).heap[W2.heap.size]? = some (.chan n #[] false 0 0 false)) := Lib.hid (blk_new _ _)
        have HW3 : Hid ((W2.alloc (.chan n #[] false 0 0 false)).heap[bw]? = some (.cells (madeCells #[.int .i64 0] n) 3 (0, 0))) := Lib.hid (blk_alloc HW2.out _)
        have HM3 : Hid ((W2.alloc (.chan n #[] false 0 0 false)).heap[bm]? = some (.map #[] 0)) := Lib.hid (blk_alloc HM2.out _)
        have HB3 : Hid (Below w.heap.size w (W2.alloc (.chan n #[] false 0 0 false))) := Lib.hid (HB2.out.alloc HB2.out.size _)
        have Hx4 : Hid (w.heap.size ≤ W2.heap.size) := Lib.hid HB2.out.size
        refine hK.out _ _ trivial (fun hHeld => ?_)
        clear hK K HW2 HM2 HB2
        generalize (W2.alloc (.chan n #[] false 0 0 false)) = W3 at HW3 HM3 HC3 HB3 ⊢
        generalize W2.heap.size = c at *
        refine norm_ (a' := ?_) ?_ ?_
        rotate_left
        · show Act.put _ (some 27) _ = _
          simp only [Act.put, List.setIfInBounds_toArray, List.set_cons_zero, List.set_cons_succ]
          rfl
        refine pure_ (i := 7) (N := some 30) (v := ?_) (a' := ?_) #[true, true, true, true, true, true, true, true, false, false] rfl rfl (by kernel_rfl) (fun _ _ _ h => h) (Or.inl ⟨by rfl, ?_⟩) ?_ ?_
        rotate_left
        · intro w'
          go_simp
          with_reducible rfl
        rotate_left
        · simp only [Act.put, List.setIfInBounds_toArray, List.set_cons_zero, List.set_cons_succ]
          rfl
        refine one_ (i := 8) (N := some 31) #[true, true, true, true, true, true, true, true, true, false] rfl rfl (by kernel_rfl) (by decide) (fun K hK => ?_)
        refine value_ (w1 := (W3.alloc (.cells #[.int .u32 sum, .int .i64 first, .int .i64 0, .map (some bm), .chan (some c), .slice (some ⟨bw, 0, none⟩) n n, .slice none 0 0] 75))) (v := .pointer (some ⟨W3.heap.size, 0, none⟩)) (by rfl) rfl (by go_simp) ?_
        refine hK.out _ _ trivial (fun hHeld => ?_)
        clear hK K
        refine norm_ (a' := ?_) ?_ ?_
        rotate_left
        · show Act.put _ (some 31) _ = _
          simp only [Act.put, List.setIfInBounds_toArray, List.set_cons_zero, List.set_cons_succ]
          rfl
        refine pure_ (i := 9) (N := some 8) (v := ?_) (a' := ?_) #[true, true, true, true, true, true, true, true, true, true] rfl rfl (by kernel_rfl) (fun _ _ _ h => h) (Or.inl ⟨by rfl, ?_⟩) ?_ ?_
        rotate_left
        · intro w'
          go_simp
          with_reducible rfl
        rotate_left
        · simp only [Act.put, List.setIfInBounds_toArray, List.set_cons_zero, List.set_cons_succ]
          rfl
        refine done_ (by kernel_rfl) ?_
        go_wp2_with (fail)
        go_meet
        exact ⟨W3.heap.size, bm, c, bw, rfl, Lib.hid (blk_new _ _), Lib.hid (blk_alloc HM3.out _), Lib.hid (blk_alloc HC3.out _), Lib.hid (blk_alloc HW3.out _), Lib.hid (HB3.out.alloc HB3.out.size _), Lib.hid ⟨HB3.out.size, Hx2.out, Hx4.out, Hx6.out⟩⟩
      · refine value_ (w1 := (W1.alloc (.chan n #[] false 0 0 false))) (v := .chan (some W1.heap.size)) (by rfl) rfl (by have := HMK.out W1; go_simp) ?_
        have HC2 : Hid ((W1.alloc (.chan n #[] false 0 0 false)).heap[W1.heap.size]? = some (.chan n #[] false 0 0 false)) := Lib.hid (blk_new _ _)
        have HW2 : Hid ((W1.alloc (.chan n #[] false 0 0 false)).heap[bw]? = some (.cells (madeCells #[.int .i64 0] n) 3 (0, 0))) := Lib.hid (blk_alloc HW1.out _)
        have HB2 : Hid (Below w.heap.size w (W1.alloc (.chan n #[] false 0 0 false))) := Lib.hid (HB1.out.alloc HB1.out.size _)
        have Hx4 : Hid (w.heap.size ≤ W1.heap.size) := Lib.hid HB1.out.size
        refine hK.out _ _ trivial (fun hHeld => ?_)
        clear hK K HW1 HB1
        generalize (W1.alloc (.chan n #[] false 0 0 false)) = W2 at HW2 HC2 HB2 ⊢
        generalize W1.heap.size = c at *
        refine norm_ (a' := ?_) ?_ ?_
        rotate_left
        · show Act.put _ (some 27) _ = _
          simp only [Act.put, List.setIfInBounds_toArray, List.set_cons_zero, List.set_cons_succ]
          rfl
        refine one_ (i := 2) (N := some 25) #[true, true, true, true, true, true, true, false, false, false] rfl rfl (by kernel_rfl) (by decide) (fun K hK => ?_)
        refine value_ (w1 := (W2.alloc (.map #[] 0))) (v := .map (some W2.heap.size)) (by rfl) rfl (by have := run_makeMap (P := Try.prog) (w := W2) 72; go_simp) ?_
        have HM3 : Hid ((W2.alloc (.map #[] 0)).heap[W2.heap.size]? = some (.map #[] 0)) := Lib.hid (blk_new _ _)
        have HW3 : Hid ((W2.alloc (.map #[] 0)).heap[bw]? = some (.cells (madeCells #[.int .i64 0] n) 3 (0, 0))) := Lib.hid (blk_alloc HW2.out _)
        have HC3 : Hid ((W2.alloc (.map #[] 0)).heap[c]? = some (.chan n #[] false 0 0 false)) := Lib.hid (blk_alloc HC2.out _)
        have HB3 : Hid (Below w.heap.size w (W2.alloc (.map #[] 0))) := Lib.hid (HB2.out.alloc HB2.out.size _)
        have Hx2 : Hid (w.heap.size ≤ W2.heap.size) := Lib.hid HB2.out.size
        refine hK.out _ _ trivial (fun hHeld => ?_)
        clear hK K HW2 HC2 HB2
        generalize (W2.alloc (.map #[] 0)) = W3 at HW3 HC3 HM3 HB3 ⊢
        generalize W2.heap.size = bm at *
        refine norm_ (a' := ?_) ?_ ?_
        rotate_left
        · show Act.put _ (some 25) _ = _
          simp only [Act.put, List.setIfInBounds_toArray, List.set_cons_zero, List.set_cons_succ]
          rfl
        refine pure_ (i := 7) (N := some 30) (v := ?_) (a' := ?_) #[true, true, true, true, true, true, true, true, false, false] rfl rfl (by kernel_rfl) (fun _ _ _ h => h) (Or.inl ⟨by rfl, ?_⟩) ?_ ?_
        rotate_left
        · intro w'
          go_simp
          with_reducible rfl
        rotate_left
        · simp only [Act.put, List.setIfInBounds_toArray, List.set_cons_zero, List.set_cons_succ]
          rfl
        refine one_ (i := 8) (N := some 31) #[true, true, true, true, true, true, true, true, true, false] rfl rfl (by kernel_rfl) (by decide) (fun K hK => ?_)
        refine value_ (w1 := (W3.alloc (.cells #[.int .u32 sum, .int .i64 first, .int .i64 0, .map (some bm), .chan (some c), .slice (some ⟨bw, 0, none⟩) n n, .slice none 0 0] 75))) (v := .pointer (some ⟨W3.heap.size, 0, none⟩)) (by rfl) rfl (by go_simp) ?_
        refine hK.out _ _ trivial (fun hHeld => ?_)
        clear hK K
        refine norm_ (a' := ?_) ?_ ?_
        rotate_left
        · show Act.put _ (some 31) _ = _
          simp only [Act.put, List.setIfInBounds_toArray, List.set_cons_zero, List.set_cons_succ]
          rfl
        refine pure_ (i := 9) (N := some 8) (v := ?_) (a' := ?_) #[true, true, true, true, true, true, true, true, true, true] rfl rfl (by kernel_rfl) (fun _ _ _ h => h) (Or.inl ⟨by rfl, ?_⟩) ?_ ?_
        rotate_left
        · intro w'
          go_simp
          with_reducible rfl
        rotate_left
        · simp only [Act.put, List.setIfInBounds_toArray, List.set_cons_zero, List.set_cons_succ]
          rfl
        refine done_ (by kernel_rfl) ?_
        go_wp2_with (fail)
        go_meet
        exact ⟨W3.heap.size, bm, c, bw, rfl, Lib.hid (blk_new _ _), Lib.hid (blk_alloc HM3.out _), Lib.hid (blk_alloc HC3.out _), Lib.hid (blk_alloc HW3.out _), Lib.hid (HB3.out.alloc HB3.out.size _), Lib.hid ⟨HB3.out.size, Hx2.out, Hx4.out, Hx6.out⟩⟩
  case rest =>
    obtain ⟨g, bm, c, bw, rfl, HG, HM, HC, HW, HB, Hx⟩ := hcut
    have hmp := HMP.out wc
    have p6 : (wc.alloc (.cells (cellsP (List.replicate n (z40, [.int .i64 0, .slice none 0 0, .slice none 0 0, .slice none 0 0]))).toArray 40)).cell? ⟨g, 6, none⟩ = some (.slice none 0 0) := blk_at (blk_alloc HG.out _) 6 rfl
    have z6 : (wc.alloc (.cells (cellsP (List.replicate n (z40, [.int .i64 0, .slice none 0 0, .slice none 0 0, .slice none 0 0]))).toArray 40)).frozen? ⟨g, 6, none⟩ = false := blk_frozen (blk_alloc HG.out _) 6
    clear HMK HMR HMP
    go_wp2_with (fail)
    go_ret2
    have hgb : g ≠ wc.heap.size := by have := blk_lt HG.out; omega
    have hne : ∀ k o, wc.heap[k]? = some o → (∀ cs t, o ≠ .cells cs t (0, 0)) → k ≠ g := fun k o hk ho e => by subst e; rw [HG.out] at hk; cases hk; exact ho _ _ rfl
    have hf : ∀ k o, k ≠ g → wc.heap[k]? = some o → ((wc.alloc (.cells (cellsP (List.replicate n (z40, [.int .i64 0, .slice none 0 0, .slice none 0 0, .slice none 0 0]))).toArray 40)).setCell ⟨g, 6, none⟩ (.slice (some ⟨wc.heap.size, 0, none⟩) n n)).heap[k]? = some o := fun k o hk ho => (set_far _ _ _ hk).trans (blk_alloc ho _)
    refine ⟨g, fresh own w tg, bm, c, bw, wc.heap.size, List.replicate n (z40, [.int .i64 0, .slice none 0 0, .slice none 0 0, .slice none 0 0]), rfl, Lib.hid ?_, Lib.hid ?_, Hx.out.1, fun k hk => fresh_new hk⟩
    · exact {
        hb := blk_put (blk_alloc HG.out _) 6 _ rfl
        hm := MapIs.of_empty (hf _ _ (hne _ _ HM.out (fun _ _ e => by cases e)) HM.out)
        hc := hf _ _ (hne _ _ HC.out (fun _ _ e => by cases e)) HC.out
        hw := by
          rw [← show madeCells #[.int .i64 0] n = whC (PS.new n first sum).wh from cells_made n]
          exact hf _ _ (blk_ne HW.out HG.out (by decide)) HW.out
        hp := (set_far _ _ _ hgb.symm).trans (blk_new _ _)
        e1 := by simp [PS.new]
        e2 := rfl
        s1 := fun p hp => by rw [List.eq_of_mem_replicate hp]; exact St_z40 _ _
        s2 := fun e he => by cases he
        ok := HOK.out
        og := fresh_new Hx.out.1
        om := fresh_new Hx.out.2.1
        oc := fresh_new Hx.out.2.2.1
        ow := fresh_new Hx.out.2.2.2
        op := fresh_new HB.out.size }
    · exact Upd.of_below' ((HB.out.alloc HB.out.size _).setCell Hx.out.1 _) (fun k hk => fresh_old hk)
end Go.Proofs.Ytcbaiplamaopeaa.PPostShots
