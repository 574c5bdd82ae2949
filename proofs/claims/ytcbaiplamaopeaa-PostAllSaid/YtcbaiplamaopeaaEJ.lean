/- The document's Pick: one more, not the last. -/
import Derived.Test.YtcbaiplamaopeaaEI
namespace Go.Proofs.Ytcbaiplamaopeaa.PPostShots
open Go.RowKit Go.Conc Go.Proofs.YtcbaiplamaopeaaW.PrintWords Go.Proofs.YtcbaiplamaopeaaW.PrintLast Go.Proofs.Ytcbaiplamaopeaa.PPost
set_option linter.unusedVariables false
set_option linter.unusedSimpArgs false

set_option maxRecDepth 100000 in
set_option maxHeartbeats 4000000 in
theorem pick37_one (own : Nat → Nat) (w : World) (g tg : Nat) (R : RA) (A : Option Addr) (c : Nat) (rows : List SC) (pps : List PP) (h : RefAt own w g tg R A c rows pps) (i : Nat) (hn : R.now = i) (hi : R.sts.length = i + 1) (hu : R.sts.getD i 0 = 1) (hne : ¬ R.pk = R.ps.length) (hlast : R.pk + 1 < R.n) : Calls Try.prog 37 #[.pointer (some ⟨g, 0, none⟩)] w fun e w' => e = .returned (.tuple #[.int .i64 1, .agg #[.int .i64 0, .int .u32 0, .slice none 0 0]]) ∧ RefTo own w g tg ⟨R.n, R.first, R.sum, R.sts, R.ps, R.ts, R.pk + 1⟩ w' := by
  have HP := now51 own (w.alloc (.cells #[.int .i64 0, .int .u32 0, .slice none 0 0] 44)) g tg R A c rows pps (h.upd (T := fun _ => False) (fun h => h) (fun _ _ _ h => h) (Upd.box _))
  rw [hn] at HP
  have HP := Lib.hid HP
  obtain ⟨gs, s, rfl, hs, hst, hid, hog⟩ := h.shot i (by omega)
  have hlt : i < rows.length := by rw [h.len]; omega
  have h0 := h.upd (T := fun _ => False) (fun h => h) (fun _ _ _ h => h) (Upd.box (w := w) (.cells #[.int .i64 0, .int .u32 0, .slice none 0 0] 44))
  have hL := h0.hl s (last_at (by rw [h.len]; exact hi) hs)
  obtain ⟨x0, x1, x2, x3, x4, xf⟩ := kS_at h0.hr i hs
  obtain ⟨n, hnl⟩ : ∃ n, n = rows.length := ⟨_, rfl⟩
  have q3 : (w.alloc (.cells #[.int .i64 0, .int .u32 0, .slice none 0 0] 44)).cell? ⟨g, 3, none⟩ = some (.slice (some ⟨gs, 0, none⟩) n c) := by rw [hnl]; exact blk_at h0.hb 3 rfl
  have hin : i < n := by rw [hnl]; exact hlt
  have hlp := (Kd.R_reads' hL.hp).1
  have hlm := (Kd.R_reads' hL.ht).1
  have hep : pps.length = R.ps.length := by rw [← h.ep, List.length_map]
  have hm12 : s.m ≤ 12 := by rw [hlm, h.ok.lt]; exact h.ok.lm
  have hpk4 := hL.hk
  have hpkle := h.ok.lp
  rw [hpk4] at x4
  rw [hst, hu] at x1
  rw [hid] at x0
  obtain ⟨t, ht⟩ : ∃ t, t = R.n := ⟨_, rfl⟩
  have k2 : (((R.pk : Nat) : Int) == ((s.l : Nat) : Int)) = false := by rw [hlp, hep]; simp; omega
  have k3 : decide ((R.pk : Int) + 1 < (t : Nat)) = true := decide_eq_true (by rw [ht]; omega)
  obtain ⟨o1, ho1⟩ : ∃ o1, o1 = fresh own w (tg + 4) := ⟨_, rfl⟩
  have HB0 : Hid (Below w.heap.size w (w.alloc (.cells #[.int .i64 0, .int .u32 0, .slice none 0 0] 44)).drew) := Lib.hid ((Below.refl _ _).alloc (Nat.le_refl _) _).drew
  have hu0 : Upd (fun _ => False) own w o1 (w.alloc (.cells #[.int .i64 0, .int .u32 0, .slice none 0 0] 44)).drew := by rw [ho1]; exact Upd.of_below HB0.out _
  have HU0 := Lib.hid hu0
  have HR0 := Lib.hid (h.upd (T := fun _ => False) (fun h => h) (fun _ _ _ h => h) hu0)
  have HO1 : Hid (∀ k, w.heap.size ≤ k → o1 k = tg + 4) := Lib.hid (fun k hk => by rw [ho1]; exact fresh_new hk)
  have HX0 : Hid ((w.alloc (.cells #[.int .i64 0, .int .u32 0, .slice none 0 0] 44)).drew.heap[w.heap.size]? = some (.cells #[.int .i64 0, .int .u32 0, .slice none 0 0] 44 (0, 0))) := Lib.hid (blk_new w _)
  have HsV : Hid ((w.alloc (.cells #[.int .i64 0, .int .u32 0, .slice none 0 0] 44)).drew.heap.size = w.heap.size + 1) := Lib.hid (World.size_alloc _ _)
  have HS := Lib.hid hs
  have HID := Lib.hid hid
  have HST := Lib.hid (hst.trans hu)
  have HIL := Lib.hid ((h.len).trans hi)
  have HNL := Lib.hid hnl
  have HT := Lib.hid ht
  have HPKE := Lib.hid hpk4
  have HEP := Lib.hid hep
  have HLP := Lib.hid hlp
  have HLM := Lib.hid hlm
  have HLT := Lib.hid h.ok.lt
  have HPK1 : Hid (R.pk + 1 ≤ R.ps.length) := Lib.hid (by omega)
  have hpk12 : R.pk ≤ 12 := by have := h.ok.lm; omega
  have HSA : Hid (s = ⟨s.id, s.st, s.A, s.l, s.c, s.B, s.m, s.e, s.pk⟩) := Lib.hid rfl
  generalize s.m = m at *
  generalize s.e = e' at *
  generalize s.B = B at *
  generalize s.l = lp at *
  generalize s.c = cp at *
  generalize s.A = Ap at *
  generalize hidv : R.first + (i : Int) = id at *
  have HIV := Lib.hid hidv
  clear hidv
  clear h h0 hn hs hst hid hog hlt hnl hi hu hL hlp hlm hep hpk4 hpkle xf ht hu0 ho1 hne hlast
  go_enter Try.func37, Try.ntmps37
  go_upto_region 2 with (go_at_call 51; refine HP.out.mono ?_; rintro e w1 ⟨rfl, rfl⟩)
  refine start_ (n := 22) (S := (fun w' => w'.cell? ⟨g, 3, none⟩ = some (.slice (some ⟨gs, 0, none⟩) n c) ∧ w'.cell? ⟨gs, i * 5 + 2, none⟩ = some (.slice Ap lp cp) ∧ w'.cell? ⟨gs, i * 5 + 4, none⟩ = some (.int .i64 (R.pk : Nat)))) (ds := []) #[false, false, false, false, false, false, false, false, false, false, false, false, false, false, false, false, false, false, false, false, false, false] (by kernel_rfl) rfl rfl ⟨(show (w.alloc (.cells #[.int .i64 0, .int .u32 0, .slice none 0 0] 44)).drew.cell? _ = _ from q3), (show (w.alloc (.cells #[.int .i64 0, .int .u32 0, .slice none 0 0] 44)).drew.cell? _ = _ from x2), (show (w.alloc (.cells #[.int .i64 0, .int .u32 0, .slice none 0 0] 44)).drew.cell? _ = _ from x4)⟩ (fun hHeld => ?_)
  refine pure_ (i := 0) (N := some 12) (v := ?_) (a' := ?_) #[true, false, false, false, false, false, false, false, false, false, false, false, false, false, false, false, false, false, false, false, false, false] rfl rfl (by kernel_rfl) (fun _ _ _ h => h) (Or.inl ⟨by rfl, ?_⟩) ?_ ?_
  rotate_left
  · intro w'
    go_simp
    with_reducible rfl
  rotate_left
  · simp only [Act.put, List.setIfInBounds_toArray, List.set_cons_zero, List.set_cons_succ]
    rfl
  refine pure_ (i := 1) (N := some 13) (v := ?_) (a' := ?_) #[true, true, false, false, false, false, false, false, false, false, false, false, false, false, false, false, false, false, false, false, false, false] rfl rfl (by kernel_rfl) (fun _ _ _ h => h) (Or.inl ⟨by rfl, ?_⟩) ?_ ?_
  rotate_left
  · intro w'
    go_simp
    with_reducible rfl
  rotate_left
  · simp only [Act.put, List.setIfInBounds_toArray, List.set_cons_zero, List.set_cons_succ]
    rfl
  refine pure_ (i := 2) (N := some 14) (v := ?_) (a' := ?_) #[true, true, true, false, false, false, false, false, false, false, false, false, false, false, false, false, false, false, false, false, false, false] rfl rfl (by kernel_rfl) (fun _ _ _ h => h) (Or.inl ⟨by rfl, ?_⟩) ?_ ?_
  rotate_left
  · intro w'
    go_simp
    with_reducible rfl
  rotate_left
  · simp only [Act.put, List.setIfInBounds_toArray, List.set_cons_zero, List.set_cons_succ]
    rfl
  refine pure_ (i := 3) (N := some 15) (v := ?_) (a' := ?_) #[true, true, true, true, false, false, false, false, false, false, false, false, false, false, false, false, false, false, false, false, false, false] rfl rfl (by kernel_rfl) (fun _ _ _ h => h) (Or.inl ⟨by rfl, ?_⟩) ?_ ?_
  rotate_left
  · intro w'
    go_simp
    with_reducible rfl
  rotate_left
  · simp only [Act.put, List.setIfInBounds_toArray, List.set_cons_zero, List.set_cons_succ]
    rfl
  refine pure_ (i := 4) (N := some 16) (v := ?_) (a' := ?_) #[true, true, true, true, true, false, false, false, false, false, false, false, false, false, false, false, false, false, false, false, false, false] rfl rfl (by kernel_rfl) (fun _ _ _ h => h) (Or.inl ⟨by rfl, ?_⟩) ?_ ?_
  rotate_left
  · intro w'
    go_simp
    with_reducible rfl
  rotate_left
  · simp only [Act.put, List.setIfInBounds_toArray, List.set_cons_zero, List.set_cons_succ]
    rfl
  refine pure_ (i := 5) (N := some 17) (v := ?_) (a' := ?_) #[true, true, true, true, true, true, false, false, false, false, false, false, false, false, false, false, false, false, false, false, false, false] rfl rfl (by kernel_rfl) (fun _ _ _ h => h) (Or.inl ⟨by rfl, ?_⟩) ?_ ?_
  rotate_left
  · intro w'
    go_simp
    with_reducible rfl
  rotate_left
  · simp only [Act.put, List.setIfInBounds_toArray, List.set_cons_zero, List.set_cons_succ]
    rfl
  refine take_ (i := 6) (N := some 18) (v := ?_) (a' := ?_) #[true, true, true, true, true, true, true, false, false, false, false, false, false, false, false, false, false, false, false, false, false, false] rfl rfl (by kernel_rfl) (fun _ _ _ h => h) (Or.inl ⟨by rfl, ?_⟩) hHeld ?_ ?_
  rotate_left
  · rintro w' ⟨s0, s1, s2⟩
    go_simp
    with_reducible rfl
  rotate_left
  · simp only [Act.put, List.setIfInBounds_toArray, List.set_cons_zero, List.set_cons_succ]
    rfl
  refine pure_ (i := 7) (N := some 19) (v := ?_) (a' := ?_) #[true, true, true, true, true, true, true, true, false, false, false, false, false, false, false, false, false, false, false, false, false, false] rfl rfl (by kernel_rfl) (fun _ _ _ h => h) (Or.inl ⟨by rfl, ?_⟩) ?_ ?_
  rotate_left
  · intro w'
    go_simp
    with_reducible rfl
  rotate_left
  · simp only [Act.put, List.setIfInBounds_toArray, List.set_cons_zero, List.set_cons_succ]
    rfl
  refine pure_ (i := 8) (N := some 20) (v := ?_) (a' := ?_) #[true, true, true, true, true, true, true, true, true, false, false, false, false, false, false, false, false, false, false, false, false, false] rfl rfl (by kernel_rfl) (fun _ _ _ h => h) (Or.inl ⟨by rfl, ?_⟩) ?_ ?_
  rotate_left
  · intro w'
    go_simp
    with_reducible rfl
  rotate_left
  · simp only [Act.put, List.setIfInBounds_toArray, List.set_cons_zero, List.set_cons_succ]
    rfl
  refine pure_ (i := 9) (N := some 21) (v := ?_) (a' := ?_) #[true, true, true, true, true, true, true, true, true, true, false, false, false, false, false, false, false, false, false, false, false, false] rfl rfl (by kernel_rfl) (fun _ _ _ h => h) (Or.inl ⟨by rfl, ?_⟩) ?_ ?_
  rotate_left
  · intro w'
    go_simp
    with_reducible rfl
  rotate_left
  · simp only [Act.put, List.setIfInBounds_toArray, List.set_cons_zero, List.set_cons_succ]
    rfl
  refine take_ (i := 10) (N := some 22) (v := ?_) (a' := ?_) #[true, true, true, true, true, true, true, true, true, true, true, false, false, false, false, false, false, false, false, false, false, false] rfl rfl (by kernel_rfl) (fun _ _ _ h => h) (Or.inl ⟨by rfl, ?_⟩) hHeld ?_ ?_
  rotate_left
  · rintro w' ⟨s0, s1, s2⟩
    go_simp
    with_reducible rfl
  rotate_left
  · simp only [Act.put, List.setIfInBounds_toArray, List.set_cons_zero, List.set_cons_succ]
    rfl
  refine pure_ (i := 11) (N := some 23) (v := ?_) (a' := ?_) #[true, true, true, true, true, true, true, true, true, true, true, true, false, false, false, false, false, false, false, false, false, false] rfl rfl (by kernel_rfl) (fun _ _ _ h => h) (Or.inl ⟨by rfl, ?_⟩) ?_ ?_
  rotate_left
  · intro w'
    go_simp
    with_reducible rfl
  rotate_left
  · simp only [Act.put, List.setIfInBounds_toArray, List.set_cons_zero, List.set_cons_succ]
    rfl
  refine pure_ (i := 12) (N := some 24) (v := ?_) (a' := ?_) #[true, true, true, true, true, true, true, true, true, true, true, true, true, false, false, false, false, false, false, false, false, false] rfl rfl (by kernel_rfl) (fun _ _ _ h => h) (Or.inl ⟨by rfl, ?_⟩) ?_ ?_
  rotate_left
  · intro w'
    go_simp
    with_reducible rfl
  rotate_left
  · simp only [Act.put, List.setIfInBounds_toArray, List.set_cons_zero, List.set_cons_succ]
    rfl
  refine pure_ (i := 13) (N := some 25) (v := ?_) (a' := ?_) #[true, true, true, true, true, true, true, true, true, true, true, true, true, true, false, false, false, false, false, false, false, false] rfl rfl (by kernel_rfl) (fun _ _ _ h => h) (Or.inl ⟨by rfl, ?_⟩) ?_ ?_
  rotate_left
  · intro w'
    go_simp
    with_reducible rfl
  rotate_left
  · simp only [Act.put, List.setIfInBounds_toArray, List.set_cons_zero, List.set_cons_succ]
    rfl
  refine take_ (i := 14) (N := some 26) (v := ?_) (a' := ?_) #[true, true, true, true, true, true, true, true, true, true, true, true, true, true, true, false, false, false, false, false, false, false] rfl rfl (by kernel_rfl) (fun _ _ _ h => h) (Or.inl ⟨by rfl, ?_⟩) hHeld ?_ ?_
  rotate_left
  · rintro w' ⟨s0, s1, s2⟩
    go_simp
    with_reducible rfl
  rotate_left
  · simp only [Act.put, List.setIfInBounds_toArray, List.set_cons_zero, List.set_cons_succ]
    rfl
  refine pure_ (i := 15) (N := some 27) (v := ?_) (a' := ?_) #[true, true, true, true, true, true, true, true, true, true, true, true, true, true, true, true, false, false, false, false, false, false] rfl rfl (by kernel_rfl) (fun _ _ _ h => h) (Or.inl ⟨by rfl, ?_⟩) ?_ ?_
  rotate_left
  · intro w'
    go_simp
    with_reducible rfl
  rotate_left
  · simp only [Act.put, List.setIfInBounds_toArray, List.set_cons_zero, List.set_cons_succ]
    rfl
  refine pure_ (i := 16) (N := some 28) (v := ?_) (a' := ?_) #[true, true, true, true, true, true, true, true, true, true, true, true, true, true, true, true, true, false, false, false, false, false] rfl rfl (by kernel_rfl) (fun _ _ _ h => h) (Or.inl ⟨by rfl, ?_⟩) ?_ ?_
  rotate_left
  · intro w'
    go_simp
    with_reducible rfl
  rotate_left
  · simp only [Act.put, List.setIfInBounds_toArray, List.set_cons_zero, List.set_cons_succ]
    rfl
  refine pure_ (i := 17) (N := some 29) (v := ?_) (a' := ?_) #[true, true, true, true, true, true, true, true, true, true, true, true, true, true, true, true, true, true, false, false, false, false] rfl rfl (by kernel_rfl) (fun _ _ _ h => h) (Or.inl ⟨by rfl, ?_⟩) ?_ ?_
  rotate_left
  · intro w'
    go_simp
    with_reducible rfl
  rotate_left
  · simp only [Act.put, List.setIfInBounds_toArray, List.set_cons_zero, List.set_cons_succ]
    rfl
  refine take_ (i := 18) (N := some 30) (v := ?_) (a' := ?_) #[true, true, true, true, true, true, true, true, true, true, true, true, true, true, true, true, true, true, true, false, false, false] rfl rfl (by kernel_rfl) (fun _ _ _ h => h) (Or.inl ⟨by rfl, ?_⟩) hHeld ?_ ?_
  rotate_left
  · rintro w' ⟨s0, s1, s2⟩
    go_simp
    with_reducible rfl
  rotate_left
  · simp only [Act.put, List.setIfInBounds_toArray, List.set_cons_zero, List.set_cons_succ]
    rfl
  refine pure_ (i := 19) (N := some 31) (v := ?_) (a' := ?_) #[true, true, true, true, true, true, true, true, true, true, true, true, true, true, true, true, true, true, true, true, false, false] rfl rfl (by kernel_rfl) (fun _ _ _ h => h) (Or.inl ⟨by rfl, ?_⟩) ?_ ?_
  rotate_left
  · intro w'
    go_simp
    with_reducible rfl
  rotate_left
  · simp only [Act.put, List.setIfInBounds_toArray, List.set_cons_zero, List.set_cons_succ]
    rfl
  refine pure_ (i := 20) (N := some 32) (v := ?_) (a' := ?_) #[true, true, true, true, true, true, true, true, true, true, true, true, true, true, true, true, true, true, true, true, true, false] rfl rfl (by kernel_rfl) (fun _ _ _ h => h) (Or.inl ⟨by rfl, ?_⟩) ?_ ?_
  rotate_left
  · intro w'
    go_simp
    with_reducible rfl
  rotate_left
  · simp only [Act.put, List.setIfInBounds_toArray, List.set_cons_zero, List.set_cons_succ]
    rfl
  refine pure_ (i := 21) (N := some 33) (v := ?_) (a' := ?_) #[true, true, true, true, true, true, true, true, true, true, true, true, true, true, true, true, true, true, true, true, true, true] rfl rfl (by kernel_rfl) (fun _ _ _ h => h) (Or.inl ⟨by rfl, ?_⟩) ?_ ?_
  rotate_left
  · intro w'
    go_simp
    with_reducible rfl
  rotate_left
  · simp only [Act.put, List.setIfInBounds_toArray, List.set_cons_zero, List.set_cons_succ]
    rfl
  refine done_ (by kernel_rfl) ?_
  have v0 : (w.alloc (.cells #[.int .i64 0, .int .u32 0, .slice none 0 0] 44)).drew.cell? ⟨gs, i * 5, none⟩ = some (.int .i64 id) := x0
  have v1 : (w.alloc (.cells #[.int .i64 0, .int .u32 0, .slice none 0 0] 44)).drew.cell? ⟨gs, i * 5 + 1, none⟩ = some (.int .i64 1) := x1
  have v2 : (w.alloc (.cells #[.int .i64 0, .int .u32 0, .slice none 0 0] 44)).drew.cell? ⟨gs, i * 5 + 2, none⟩ = some (.slice Ap lp cp) := x2
  have v3 : (w.alloc (.cells #[.int .i64 0, .int .u32 0, .slice none 0 0] 44)).drew.cell? ⟨gs, i * 5 + 3, none⟩ = some (.slice B m e') := x3
  have v4 : (w.alloc (.cells #[.int .i64 0, .int .u32 0, .slice none 0 0] 44)).drew.cell? ⟨gs, i * 5 + 4, none⟩ = some (.int .i64 (R.pk : Nat)) := x4
  have p3 : (w.alloc (.cells #[.int .i64 0, .int .u32 0, .slice none 0 0] 44)).drew.cell? ⟨g, 3, none⟩ = some (.slice (some ⟨gs, 0, none⟩) n c) := q3
  clear x0 x1 x2 x3 x4 q3 HP hHeld
  generalize (w.alloc (.cells #[.int .i64 0, .int .u32 0, .slice none 0 0] 44)).drew = V0 at *
  go_upto_region 5 with (fail)
  have HX1 : Hid ((V0.alloc (.cells #[.int .i64 id, .int .i64 1, .slice Ap lp cp, .slice B m e', .int .i64 (R.pk : Nat)] 113)).heap[V0.heap.size]? = some (.cells #[.int .i64 id, .int .i64 1, .slice Ap lp cp, .slice B m e', .int .i64 (R.pk : Nat)] 113 (0, 0))) := Lib.hid (blk_new V0 _)
  have HX0' := Lib.hid (blk_alloc HX0.out (.cells #[.int .i64 id, .int .i64 1, .slice Ap lp cp, .slice B m e', .int .i64 (R.pk : Nat)] 113))
  have HU1 : Hid (Upd (fun _ => False) own w o1 (V0.alloc (.cells #[.int .i64 id, .int .i64 1, .slice Ap lp cp, .slice B m e', .int .i64 (R.pk : Nat)] 113))) := Lib.hid (HU0.out.then (Upd.box _))
  have HR1 := Lib.hid (HR0.out.upd (T := fun _ => False) (fun h => h) (fun _ _ _ h => h) (Upd.box (.cells #[.int .i64 id, .int .i64 1, .slice Ap lp cp, .slice B m e', .int .i64 (R.pk : Nat)] 113)))
  have Hs1 : Hid (w.heap.size + 1 < (V0.alloc (.cells #[.int .i64 id, .int .i64 1, .slice Ap lp cp, .slice B m e', .int .i64 (R.pk : Nat)] 113)).heap.size) := Lib.hid (by rw [World.size_alloc, HsV.out]; exact Nat.lt_succ_self _)
  clear v0 v1 v2 v3 v4 p3 HX0 HU0 HR0 k2
  generalize V0.alloc (.cells #[.int .i64 id, .int .i64 1, .slice Ap lp cp, .slice B m e', .int .i64 (R.pk : Nat)] 113) = W1 at *
  rw [show V0.heap.size = w.heap.size + 1 from HsV.out] at HX1 ⊢
  obtain ⟨b1, hb1⟩ : ∃ b1, b1 = w.heap.size + 1 := ⟨_, rfl⟩
  have Hb1 := Lib.hid hb1
  rw [← hb1] at HX1 ⊢
  clear hb1 HB0
  have a4 : W1.cell? ⟨b1, 4, none⟩ = some (.int .i64 (R.pk : Nat)) := blk_at HX1.out 4 rfl
  have af : W1.frozen? ⟨b1, 4, none⟩ = false := blk_frozen HX1.out 4
  go_upto_region 6 with (fail)
  clear a4 af
  have HX2 := Lib.hid (blk_put HX1.out 4 (.int .i64 ((R.pk : Int) + 1)) rfl)
  have HX02 := Lib.hid (blk_far HX0'.out (p := ⟨b1, 4, none⟩) (by have := Hb1.out; simp only []; omega) (.int .i64 ((R.pk : Int) + 1)))
  have hub : Upd (· = tg + 4) o1 W1 o1 (W1.setCell ⟨b1, 4, none⟩ (.int .i64 ((R.pk : Int) + 1))) := Upd.set (p := ⟨b1, 4, none⟩) (HO1.out b1 (by rw [Hb1.out]; omega)) _
  have HR2 := HR1.out.upd (T := (· = tg + 4)) (by omega) (fun t_ h1 h2 h3 => by omega) hub
  have HU2 : Hid (Upd (Tg tg) own w o1 (W1.setCell ⟨b1, 4, none⟩ (.int .i64 ((R.pk : Int) + 1)))) := Lib.hid ((HU1.out.mono (fun _ h => h.elim)).then (hub.mono (fun t_ ht => by unfold Tg; omega)))
  generalize W1.setCell ⟨b1, 4, none⟩ (.int .i64 ((R.pk : Int) + 1)) = W2 at *
  clear hub HX1 HX0' HU1 HR1 HsV Hs1
  obtain ⟨v0, v1, v2, v3, v4, vf⟩ := kS_at HR2.hr i HS.out
  have ePK : s.pk = (R.pk : Nat) := HPKE.out
  rw [ePK] at v4
  have q3 : W2.cell? ⟨g, 3, none⟩ = some (.slice (some ⟨gs, 0, none⟩) n c) := by rw [HNL.out]; exact blk_at HR2.hb 3 rfl
  have HR3 : Hid (RefAt o1 (W2.drew.setCell ⟨gs, i * 5 + 4, none⟩ (.int .i64 ((R.pk : Int) + 1))) g tg ⟨R.n, R.first, R.sum, R.sts, R.ps, R.ts, R.pk + 1⟩ (some ⟨gs, 0, none⟩) c (rows.set i ⟨s.id, s.st, s.A, s.l, s.c, s.B, s.m, s.e, (R.pk + 1 : Nat)⟩) pps) := Lib.hid ((HR2.upd (T := fun _ => False) (fun h => h) (fun _ _ _ h => h) Upd.drew).setPk HS.out HIL.out (R.pk + 1) HPK1.out)
  have hog : o1 gs = tg + 1 := by
    obtain ⟨gs', hgs, -, -, hog, -, -⟩ := kS_ptr HR2.hr (by rw [HIL.out]; omega)
    injection hgs with hgs
    injection hgs with hgs
    subst hgs
    exact hog
  have hne1 : b1 ≠ gs := fun e => by have := HO1.out b1 (by rw [Hb1.out]; omega); rw [e] at this; omega
  have hne0 : w.heap.size ≠ gs := fun e => by have := HO1.out w.heap.size (Nat.le_refl _); rw [e] at this; omega
  have HOG := Lib.hid hog
  refine start_ (n := 10) (S := (fun w' => w'.cell? ⟨g, 3, none⟩ = some (.slice (some ⟨gs, 0, none⟩) n c) ∧ w'.cell? ⟨b1, 4, none⟩ = some (.int .i64 ((R.pk : Int) + 1)))) (ds := [9]) #[false, false, false, false, false, false, false, false, false, false] (by kernel_rfl) rfl rfl ⟨(show W2.drew.cell? _ = _ from q3), (show W2.drew.cell? _ = _ from blk_at HX2.out 4 rfl)⟩ (fun hHeld => ?_)
  have y4 : W2.drew.cell? ⟨gs, i * 5 + 4, none⟩ = some (.int .i64 (R.pk : Nat)) := v4
  have z4 : W2.drew.frozen? ⟨gs, i * 5 + 4, none⟩ = false := vf _
  refine pure_ (i := 0) (N := some 46) (v := ?_) (a' := ?_) #[true, false, false, false, false, false, false, false, false, false] rfl rfl (by kernel_rfl) (fun _ _ _ h => h) (Or.inl ⟨by rfl, ?_⟩) ?_ ?_
  rotate_left
  · intro w'
    go_simp
    with_reducible rfl
  rotate_left
  · simp only [Act.put, List.setIfInBounds_toArray, List.set_cons_zero, List.set_cons_succ]
    rfl
  refine pure_ (i := 1) (N := some 47) (v := ?_) (a' := ?_) #[true, true, false, false, false, false, false, false, false, false] rfl rfl (by kernel_rfl) (fun _ _ _ h => h) (Or.inl ⟨by rfl, ?_⟩) ?_ ?_
  rotate_left
  · intro w'
    go_simp
    with_reducible rfl
  rotate_left
  · simp only [Act.put, List.setIfInBounds_toArray, List.set_cons_zero, List.set_cons_succ]
    rfl
  refine pure_ (i := 2) (N := some 48) (v := ?_) (a' := ?_) #[true, true, true, false, false, false, false, false, false, false] rfl rfl (by kernel_rfl) (fun _ _ _ h => h) (Or.inl ⟨by rfl, ?_⟩) ?_ ?_
  rotate_left
  · intro w'
    go_simp
    with_reducible rfl
  rotate_left
  · simp only [Act.put, List.setIfInBounds_toArray, List.set_cons_zero, List.set_cons_succ]
    rfl
  refine take_ (i := 3) (N := some 49) (v := ?_) (a' := ?_) #[true, true, true, true, false, false, false, false, false, false] rfl rfl (by kernel_rfl) (fun _ _ _ h => h) (Or.inl ⟨by rfl, ?_⟩) hHeld ?_ ?_
  rotate_left
  · rintro w' ⟨s0, s1⟩
    go_simp
    with_reducible rfl
  rotate_left
  · simp only [Act.put, List.setIfInBounds_toArray, List.set_cons_zero, List.set_cons_succ]
    rfl
  refine pure_ (i := 4) (N := some 50) (v := ?_) (a' := ?_) #[true, true, true, true, true, false, false, false, false, false] rfl rfl (by kernel_rfl) (fun _ _ _ h => h) (Or.inl ⟨by rfl, ?_⟩) ?_ ?_
  rotate_left
  · intro w'
    go_simp
    with_reducible rfl
  rotate_left
  · simp only [Act.put, List.setIfInBounds_toArray, List.set_cons_zero, List.set_cons_succ]
    rfl
  refine pure_ (i := 5) (N := some 51) (v := ?_) (a' := ?_) #[true, true, true, true, true, true, false, false, false, false] rfl rfl (by kernel_rfl) (fun _ _ _ h => h) (Or.inl ⟨by rfl, ?_⟩) ?_ ?_
  rotate_left
  · intro w'
    go_simp
    with_reducible rfl
  rotate_left
  · simp only [Act.put, List.setIfInBounds_toArray, List.set_cons_zero, List.set_cons_succ]
    rfl
  refine take_ (i := 6) (N := some 52) (v := ?_) (a' := ?_) #[true, true, true, true, true, true, true, false, false, false] rfl rfl (by kernel_rfl) (fun _ _ _ h => h) (Or.inl ⟨by rfl, ?_⟩) hHeld ?_ ?_
  rotate_left
  · rintro w' ⟨s0, s1⟩
    go_simp
    with_reducible rfl
  rotate_left
  · simp only [Act.put, List.setIfInBounds_toArray, List.set_cons_zero, List.set_cons_succ]
    rfl
  refine pure_ (i := 7) (N := some 53) (v := ?_) (a' := ?_) #[true, true, true, true, true, true, true, true, false, false] rfl rfl (by kernel_rfl) (fun _ _ _ h => h) (Or.inl ⟨by rfl, ?_⟩) ?_ ?_
  rotate_left
  · intro w'
    go_simp
    with_reducible rfl
  rotate_left
  · simp only [Act.put, List.setIfInBounds_toArray, List.set_cons_zero, List.set_cons_succ]
    rfl
  refine pure_ (i := 8) (N := some 54) (v := ?_) (a' := ?_) #[true, true, true, true, true, true, true, true, true, false] rfl rfl (by kernel_rfl) (fun _ _ _ h => h) (Or.inl ⟨by rfl, ?_⟩) ?_ ?_
  rotate_left
  · intro w'
    go_simp
    with_reducible rfl
  rotate_left
  · simp only [Act.put, List.setIfInBounds_toArray, List.set_cons_zero, List.set_cons_succ]
    rfl
  refine last_ (i := 9) (N := none) #[true, true, true, true, true, true, true, true, true, true] rfl rfl (by kernel_rfl) (by decide) (fun K hK => ?_)
  refine skip_ (w1 := W2.drew.setCell ⟨gs, i * 5 + 4, none⟩ (.int .i64 ((R.pk : Int) + 1))) (by rfl) rfl (by go_simp) ?_
  refine hK.out _ _ ?_
  clear hK K
  refine done_ (by kernel_rfl) ?_
  have HX3 : Hid ((W2.drew.setCell ⟨gs, i * 5 + 4, none⟩ (.int .i64 ((R.pk : Int) + 1))).heap[b1]? = some (.cells #[.int .i64 id, .int .i64 1, .slice Ap lp cp, .slice B m e', .int .i64 ((R.pk : Int) + 1)] 113 (0, 0))) := Lib.hid (blk_far HX2.out (w := W2.drew) (p := ⟨gs, i * 5 + 4, none⟩) hne1 (.int .i64 ((R.pk : Int) + 1)))
  have HX03 : Hid ((W2.drew.setCell ⟨gs, i * 5 + 4, none⟩ (.int .i64 ((R.pk : Int) + 1))).heap[w.heap.size]? = some (.cells #[.int .i64 0, .int .u32 0, .slice none 0 0] 44 (0, 0))) := Lib.hid (blk_far HX02.out (w := W2.drew) (p := ⟨gs, i * 5 + 4, none⟩) hne0 (.int .i64 ((R.pk : Int) + 1)))
  have HU3 : Hid (Upd (Tg tg) own w o1 (W2.drew.setCell ⟨gs, i * 5 + 4, none⟩ (.int .i64 ((R.pk : Int) + 1)))) := Lib.hid ((HU2.out.then Upd.drew).then ((Upd.row HOG.out _ _).mono (fun t_ ht => by unfold Tg; omega)))
  clear hHeld v0 v1 v2 v3 v4 vf q3 HR2 HX2 HX02 HU2 ePK hne1 hne0 y4 z4
  generalize W2.drew.setCell ⟨gs, i * 5 + 4, none⟩ (.int .i64 ((R.pk : Int) + 1)) = W3 at *
  have q0 : W3.cell? ⟨g, 0, none⟩ = some (.int .i64 (t : Nat)) := by rw [HT.out]; exact blk_at HR3.out.hb 0 rfl
  go_upto_region 7 with (fail)
  refine start_ (n := 7) (S := (fun w' => w'.cell? ⟨b1, 4, none⟩ = some (.int .i64 ((R.pk : Int) + 1)) ∧ w'.cell? ⟨g, 0, none⟩ = some (.int .i64 (t : Nat)))) (ds := []) #[false, false, false, false, false, false, false] (by kernel_rfl) rfl rfl ⟨(show W3.drew.cell? _ = _ from blk_at HX3.out 4 rfl), (show W3.drew.cell? _ = _ from q0)⟩ (fun hHeld => ?_)
  refine pure_ (i := 0) (N := some 55) (v := ?_) (a' := ?_) #[true, false, false, false, false, false, false] rfl rfl (by kernel_rfl) (fun _ _ _ h => h) (Or.inl ⟨by rfl, ?_⟩) ?_ ?_
  rotate_left
  · intro w'
    go_simp
    with_reducible rfl
  rotate_left
  · simp only [Act.put, List.setIfInBounds_toArray, List.set_cons_zero, List.set_cons_succ]
    rfl
  refine take_ (i := 1) (N := some 56) (v := ?_) (a' := ?_) #[true, true, false, false, false, false, false] rfl rfl (by kernel_rfl) (fun _ _ _ h => h) (Or.inl ⟨by rfl, ?_⟩) hHeld ?_ ?_
  rotate_left
  · rintro w' ⟨s0, s1⟩
    go_simp
    with_reducible rfl
  rotate_left
  · simp only [Act.put, List.setIfInBounds_toArray, List.set_cons_zero, List.set_cons_succ]
    rfl
  refine pure_ (i := 2) (N := some 57) (v := ?_) (a' := ?_) #[true, true, true, false, false, false, false] rfl rfl (by kernel_rfl) (fun _ _ _ h => h) (Or.inl ⟨by rfl, ?_⟩) ?_ ?_
  rotate_left
  · intro w'
    go_simp
    with_reducible rfl
  rotate_left
  · simp only [Act.put, List.setIfInBounds_toArray, List.set_cons_zero, List.set_cons_succ]
    rfl
  refine pure_ (i := 3) (N := some 58) (v := ?_) (a' := ?_) #[true, true, true, true, false, false, false] rfl rfl (by kernel_rfl) (fun _ _ _ h => h) (Or.inl ⟨by rfl, ?_⟩) ?_ ?_
  rotate_left
  · intro w'
    go_simp
    with_reducible rfl
  rotate_left
  · simp only [Act.put, List.setIfInBounds_toArray, List.set_cons_zero, List.set_cons_succ]
    rfl
  refine pure_ (i := 4) (N := some 59) (v := ?_) (a' := ?_) #[true, true, true, true, true, false, false] rfl rfl (by kernel_rfl) (fun _ _ _ h => h) (Or.inl ⟨by rfl, ?_⟩) ?_ ?_
  rotate_left
  · intro w'
    go_simp
    with_reducible rfl
  rotate_left
  · simp only [Act.put, List.setIfInBounds_toArray, List.set_cons_zero, List.set_cons_succ]
    rfl
  refine take_ (i := 5) (N := some 60) (v := ?_) (a' := ?_) #[true, true, true, true, true, true, false] rfl rfl (by kernel_rfl) (fun _ _ _ h => h) (Or.inl ⟨by rfl, ?_⟩) hHeld ?_ ?_
  rotate_left
  · rintro w' ⟨s0, s1⟩
    go_simp
    with_reducible rfl
  rotate_left
  · simp only [Act.put, List.setIfInBounds_toArray, List.set_cons_zero, List.set_cons_succ]
    rfl
  refine pure_ (i := 6) (N := some 61) (v := ?_) (a' := ?_) #[true, true, true, true, true, true, true] rfl rfl (by kernel_rfl) (fun _ _ _ h => h) (Or.inl ⟨by rfl, ?_⟩) ?_ ?_
  rotate_left
  · intro w'
    go_simp
    with_reducible rfl
  rotate_left
  · simp only [Act.put, List.setIfInBounds_toArray, List.set_cons_zero, List.set_cons_succ]
    rfl
  refine done_ (by kernel_rfl) ?_
  clear q0 hHeld
  have HX4 : Hid (W3.drew.heap[b1]? = some (.cells #[.int .i64 id, .int .i64 1, .slice Ap lp cp, .slice B m e', .int .i64 ((R.pk : Int) + 1)] 113 (0, 0))) := HX3
  have HX04 : Hid (W3.drew.heap[w.heap.size]? = some (.cells #[.int .i64 0, .int .u32 0, .slice none 0 0] 44 (0, 0))) := HX03
  have HU4 : Hid (Upd (Tg tg) own w o1 W3.drew) := Lib.hid (HU3.out.then Upd.drew)
  have HR4 := Lib.hid (HR3.out.upd (T := fun _ => False) (fun h => h) (fun _ _ _ h => h) Upd.drew)
  clear HX3 HX03 HU3 HR3
  generalize W3.drew = W4 at *
  have y0 : W4.cell? ⟨w.heap.size, 0, none⟩ = some (.int .i64 0) := blk_at HX04.out 0 rfl
  have z0 : W4.frozen? ⟨w.heap.size, 0, none⟩ = false := blk_frozen HX04.out 0
  have y1 : W4.cell? ⟨w.heap.size, 1, none⟩ = some (.int .u32 0) := blk_at HX04.out 1 rfl
  have z1 : W4.frozen? ⟨w.heap.size, 1, none⟩ = false := blk_frozen HX04.out 1
  have y2 : W4.cell? ⟨w.heap.size, 2, none⟩ = some (.slice none 0 0) := blk_at HX04.out 2 rfl
  have z2 : W4.frozen? ⟨w.heap.size, 2, none⟩ = false := blk_frozen HX04.out 2
  go_wp2_with (fail)
  refine bodyPost_ret (results_list (rs := [.tmp 2, .cell 3 44]) (vs := [.int .i64 1, .agg #[.int .i64 0, .int .u32 0, .slice none 0 0]]) rfl (by simp) (.tmp (.cell w.heap.size 44 #[.int .i64 0, .int .u32 0, .slice none 0 0] (0, 0) _ rfl (blk_put (blk_put (blk_put HX04.out 0 (.int .i64 0) rfl) 1 (.int .u32 0) rfl) 2 (.slice none 0 0) rfl) Try.underlying44 rfl (by kernel_rfl) .nil))) rfl ?_
  have hb : ∀ (W : World) (j : Nat) (u : Value), Upd (· = tg + 4) o1 W o1 (W.setCell ⟨w.heap.size, j, none⟩ u) := fun W j u => Upd.set (p := ⟨w.heap.size, j, none⟩) (HO1.out _ (Nat.le_refl _)) _
  have hb3 := ((hb W4 0 (.int .i64 0)).then (hb _ 1 (.int .u32 0))).then (hb _ 2 (.slice none 0 0))
  exact ⟨rfl, o1, _, _, _, _, HR4.out.upd (T := (· = tg + 4)) (by omega) (fun t_ h1 h2 h3 => by omega) hb3, HU4.out.then (hb3.mono (fun t_ ht => by unfold Tg; omega))⟩
end Go.Proofs.Ytcbaiplamaopeaa.PPostShots
