/- The document's Pick: the shot. -/
import Derived.Test.YtcbaiplamaopeaaEJ
namespace Go.Proofs.Ytcbaiplamaopeaa.PPostShots
open Go.RowKit Go.Conc Go.Proofs.YtcbaiplamaopeaaW.PrintWords Go.Proofs.YtcbaiplamaopeaaW.PrintLast Go.Proofs.Ytcbaiplamaopeaa.PPost
set_option linter.unusedVariables false
set_option linter.unusedSimpArgs false

theorem grown_cell {w w' : World} {b : Nat} (hg : w.grownBy w' (some b)) {a : Addr} {v : Value} (hc : w.cell? a = some v) (hne : a.block ≠ b) : w'.cell? a = some v :=
  (World.cell?_of_block (hg.block a.block (World.block_lt_of_cell? w a hc) (fun e => hne (by injection e)))).trans hc
theorem grown_below {w a b : World} {row : Option Nat} (hg : w.grownBy a row) (hb : Below w.heap.size a b) : w.grownBy b row :=
  ⟨hb.os.trans hg.os, hb.tape.trans hg.tape, hb.output.trans hg.output, Nat.le_trans hg.size hb.size, fun k hk hn => (hb.block k hk).trans (hg.block k hk hn)⟩
theorem grown_set {w a : World} {b : Nat} (hg : w.grownBy a (some b)) (j : Nat) (u : Value) : w.grownBy (a.setCell ⟨b, j, none⟩ u) (some b) :=
  ⟨hg.os, hg.tape, hg.output, by simp only [World.size_setCell]; exact hg.size, fun k hk hn => (Below.heap_setCell _ _ _ _ (fun e => hn (by rw [e]))).trans (hg.block k hk hn)⟩
theorem pp_at {own : Nat → Nat} {w : World} {ok : Nat → Prop} {A : Option Addr} {n c : Nat} {pps : List PP} (h : (pk k40 own w).R 40 w 0 ok (.slice A n c) pps) (j : Nat) (hj : j < n) :
    ∃ ad x A1 c1 A2 c2 A3 c3, A = some ad ∧ pps[j]? = some (x, [.int .i64 x.f0.f0, .slice A1 x.f0.f1.length c1, .slice A2 x.f1.length c2, .slice A3 x.f2.length c3]) ∧ St k40 own w x [.int .i64 x.f0.f0, .slice A1 x.f0.f1.length c1, .slice A2 x.f1.length c2, .slice A3 x.f2.length c3] ∧ w.cell? (ad.add (j * 4)) = some (.int .i64 x.f0.f0) ∧ w.cell? ⟨(ad.add (j * 4)).block, (ad.add (j * 4)).off + 1, none⟩ = some (.slice A1 x.f0.f1.length c1) ∧ w.cell? ⟨(ad.add (j * 4)).block, (ad.add (j * 4)).off + 2, none⟩ = some (.slice A2 x.f1.length c2) ∧ w.cell? ⟨(ad.add (j * 4)).block, (ad.add (j * 4)).off + 3, none⟩ = some (.slice A3 x.f2.length c3) := by
  have hn := (Kd.R_reads' h).1
  obtain ⟨ad, cs, e, hl, hK, hc⟩ := Kd.C_get (Kd.R_reads' h).2.2 ((z40, []) : PP) (j : Int) (by omega) (by omega)
  rw [Int.toNat_natCast] at hK hc
  have hp : pps[j]? = some (pps.getD j (z40, [])) := by rw [List.getD_eq_getElem?_getD, List.getElem?_eq_getElem (by omega)]; rfl
  generalize pps.getD j (z40, []) = p at *
  obtain ⟨x, q⟩ := p
  obtain ⟨rfl, hS⟩ : cs = q ∧ St k40 own w x q := hK
  obtain ⟨A1, c1, A2, c2, A3, c3, rfl, -⟩ := k40_open hS.now
  have hc' : ∀ t u, ([.int .i64 x.f0.f0, .slice A1 x.f0.f1.length c1, .slice A2 x.f1.length c2, .slice A3 x.f2.length c3] : List Value)[t]? = some u → w.cell? (ad.add (j * 4 + t)) = some u := hc
  exact ⟨ad, x, A1, c1, A2, c2, A3, c3, e, hp, hS, hc' 0 _ rfl, by rw [← add_field _ _ 1 (by omega)]; exact hc' 1 _ rfl, by rw [← add_field _ _ 2 (by omega)]; exact hc' 2 _ rfl, by rw [← add_field _ _ 3 (by omega)]; exact hc' 3 _ rfl⟩
/-- The parts of task t among the first i, in the order of their coming. -/
def forT (ts : List Int) (ps : List S40) (t : Int) : Nat → List S40
  | 0 => []
  | i + 1 => if (ts.getD i 0 == t) = true then forT ts ps t i ++ [ps.getD i z40] else forT ts ps t i
def byTask (ts : List Int) (ps : List S40) : Nat → List S40
  | 0 => []
  | t + 1 => byTask ts ps t ++ forT ts ps (t : Int) ts.length
theorem forT_len (ts : List Int) (ps : List S40) (t : Int) : ∀ i, (forT ts ps t i).length ≤ i
  | 0 => Nat.le_refl _
  | i + 1 => by
    have := forT_len ts ps t i
    unfold forT
    split
    · rw [List.length_append, List.length_singleton]; omega
    · omega
theorem byTask_len (ts : List Int) (ps : List S40) (h : ts.length ≤ 12) : ∀ t, (byTask ts ps t).length ≤ t * 12
  | 0 => Nat.le_refl _
  | t + 1 => by
    have h1 := byTask_len ts ps h t
    have h2 := forT_len ts ps (t : Int) ts.length
    unfold byTask
    rw [List.length_append]
    omega
theorem part_C {w : World} {x : S40} {A1 : Option Addr} {c1 : Nat} {A2 : Option Addr} {c2 : Nat} {A3 : Option Addr} {c3 : Nat} (h : k40.K w x [.int .i64 x.f0.f0, .slice A1 x.f0.f1.length c1, .slice A2 x.f1.length c2, .slice A3 x.f2.length c3]) : Kd.C k103 w A1 x.f0.f1.length x.f0.f1 ∧ Kd.C (Kd.slice 83 k83) w A2 x.f1.length x.f1 ∧ Kd.C k83 w A3 x.f2.length x.f2 := by
  obtain ⟨B1, d1, B2, d2, B3, d3, he, h1, g1, h2, g2, h3, g3⟩ := k40_open h
  simp only [List.cons.injEq, Value.slice.injEq, and_true, true_and] at he
  obtain ⟨⟨rfl, rfl⟩, ⟨rfl, rfl⟩, ⟨rfl, rfl⟩⟩ := he
  exact ⟨g1, g2, g3⟩
theorem add_block (a : Addr) (j : Nat) : (a.add j).block = a.block := by unfold Addr.add; split <;> rfl
theorem grown_refl (w : World) (row : Option Nat) : w.grownBy w row := ⟨rfl, rfl, rfl, Nat.le_refl _, fun _ _ _ => rfl⟩
set_option maxRecDepth 100000 in
set_option maxHeartbeats 16000000 in
theorem pick37_two (own : Nat → Nat) (w : World) (g tg : Nat) (R : RA) (A : Option Addr) (c : Nat) (rows : List SC) (pps : List PP) (h : RefAt own w g tg R A c rows pps) (i : Nat) (hn : R.now = i) (hi : R.sts.length = i + 1) (hu : R.sts.getD i 0 = 1) (hne : ¬ R.pk = R.ps.length) (hlast : ¬ R.pk + 1 < R.n) (hpp : ∀ x ∈ R.ps, partsP x ≤ 100000) : Calls Try.prog 37 #[.pointer (some ⟨g, 0, none⟩)] w fun e w' => ∃ own' A' c' rows' pps' v, e = .returned (.tuple #[.int .i64 2, .agg #[.int .i64 (R.first + (i : Int)), .int .u32 R.sum, v]]) ∧ ShotIs own' w' v (byTask R.ts R.ps R.n) ∧ RefAt own' w' g tg ⟨R.n, R.first, R.sum, R.sts.set i 2, R.ps, R.ts, R.pk + 1⟩ A' c' rows' pps' ∧ Upd (Tg tg) own w own' w' := by
  have HP := now51 own (w.alloc (.cells #[.int .i64 0, .int .u32 0, .slice none 0 0] 44)) g tg R A c rows pps (h.upd (T := fun _ => False) (fun h => h) (fun _ _ _ h => h) (Upd.box _))
  rw [hn] at HP
  have HP := Lib.hid HP
  obtain ⟨gs, s, rfl, hs, hst, hid, hog⟩ := h.shot i (by omega)
  have hlt : i < rows.length := by rw [h.len]; omega
  have h0 := h.upd (T := fun _ => False) (fun h => h) (fun _ _ _ h => h) (Upd.box (w := w) (.cells #[.int .i64 0, .int .u32 0, .slice none 0 0] 44))
  have hL := h0.hl s (last_at (by rw [h.len]; exact hi) hs)
  obtain ⟨x0, x1, x2, x3, x4, xf⟩ := kS_at h0.hr i hs
  obtain ⟨n, hnl⟩ : ∃ n, n = rows.length := ⟨_, rfl⟩
  have q3 : (w.alloc (.cells #[.int .i64 0, .int .u32 0, .slice none 0 0] 44)).cell? ⟨g, 3, none⟩ = some (.slice (some ⟨gs, 0, none⟩) n c) := by rw [hnl]; exact blk_at h0.hb 3 rfl
  have hin : i < n := by rw [hnl]; exact hlt
  have hlp := (Kd.R_reads' hL.hp).1
  have hlm := (Kd.R_reads' hL.ht).1
  have hep : pps.length = R.ps.length := by rw [← h.ep, List.length_map]
  have hm12 : s.m ≤ 12 := by rw [hlm, h.ok.lt]; exact h.ok.lm
  have hpk4 := hL.hk
  have hpkle := h.ok.lp
  rw [hpk4] at x4
  rw [hst, hu] at x1
  rw [hid] at x0
  obtain ⟨t, ht⟩ : ∃ t, t = R.n := ⟨_, rfl⟩
  have k2 : (((R.pk : Nat) : Int) == ((s.l : Nat) : Int)) = false := by rw [hlp, hep]; simp; omega
  have k3 : decide ((R.pk : Int) + 1 < (t : Nat)) = false := decide_eq_false (by rw [ht]; omega)
  obtain ⟨o1, ho1⟩ : ∃ o1, o1 = fresh own w (tg + 4) := ⟨_, rfl⟩
  have HB0 : Hid (Below w.heap.size w (w.alloc (.cells #[.int .i64 0, .int .u32 0, .slice none 0 0] 44)).drew) := Lib.hid ((Below.refl _ _).alloc (Nat.le_refl _) _).drew
  have hu0 : Upd (fun _ => False) own w o1 (w.alloc (.cells #[.int .i64 0, .int .u32 0, .slice none 0 0] 44)).drew := by rw [ho1]; exact Upd.of_below HB0.out _
  have HU0 := Lib.hid hu0
  have HR0 := Lib.hid (h.upd (T := fun _ => False) (fun h => h) (fun _ _ _ h => h) hu0)
  have HO1 : Hid (∀ k, w.heap.size ≤ k → o1 k = tg + 4) := Lib.hid (fun k hk => by rw [ho1]; exact fresh_new hk)
  have HX0 : Hid ((w.alloc (.cells #[.int .i64 0, .int .u32 0, .slice none 0 0] 44)).drew.heap[w.heap.size]? = some (.cells #[.int .i64 0, .int .u32 0, .slice none 0 0] 44 (0, 0))) := Lib.hid (blk_new w _)
  have HsV : Hid ((w.alloc (.cells #[.int .i64 0, .int .u32 0, .slice none 0 0] 44)).drew.heap.size = w.heap.size + 1) := Lib.hid (World.size_alloc _ _)
  have HS := Lib.hid hs
  have HID := Lib.hid hid
  have HST := Lib.hid (hst.trans hu)
  have HIL := Lib.hid ((h.len).trans hi)
  have HNL := Lib.hid hnl
  have HT := Lib.hid ht
  have HPKE := Lib.hid hpk4
  have HEP := Lib.hid hep
  have HLP := Lib.hid hlp
  have HLM := Lib.hid hlm
  have HLT := Lib.hid h.ok.lt
  have HPK1 : Hid (R.pk + 1 ≤ R.ps.length) := Lib.hid (by omega)
  have hpk12 : R.pk ≤ 12 := by have := h.ok.lm; omega
  have HSA : Hid (s = ⟨s.id, s.st, s.A, s.l, s.c, s.B, s.m, s.e, s.pk⟩) := Lib.hid rfl
  generalize s.m = m at *
  generalize s.e = e' at *
  generalize s.B = B at *
  generalize s.l = lp at *
  generalize s.c = cp at *
  generalize s.A = Ap at *
  generalize hidv : R.first + (i : Int) = id at *
  have HIV := Lib.hid hidv
  clear hidv
  clear h h0 hn hs hst hid hog hlt hnl hi hu hL hlp hlm hep hpk4 hpkle xf ht hu0 ho1 hne hlast
  go_enter Try.func37, Try.ntmps37
  go_upto_region 2 with (go_at_call 51; refine HP.out.mono ?_; rintro e w1 ⟨rfl, rfl⟩)
  refine start_ (n := 22) (S := (fun w' => w'.cell? ⟨g, 3, none⟩ = some (.slice (some ⟨gs, 0, none⟩) n c) ∧ w'.cell? ⟨gs, i * 5 + 2, none⟩ = some (.slice Ap lp cp) ∧ w'.cell? ⟨gs, i * 5 + 4, none⟩ = some (.int .i64 (R.pk : Nat)))) (ds := []) #[false, false, false, false, false, false, false, false, false, false, false, false, false, false, false, false, false, false, false, false, false, false] (by kernel_rfl) rfl rfl ⟨(show (w.alloc (.cells #[.int .i64 0, .int .u32 0, .slice none 0 0] 44)).drew.cell? _ = _ from q3), (show (w.alloc (.cells #[.int .i64 0, .int .u32 0, .slice none 0 0] 44)).drew.cell? _ = _ from x2), (show (w.alloc (.cells #[.int .i64 0, .int .u32 0, .slice none 0 0] 44)).drew.cell? _ = _ from x4)⟩ (fun hHeld => ?_)
  refine pure_ (i := 0) (N := some 12) (v := ?_) (a' := ?_) #[true, false, false, false, false, false, false, false, false, false, false, false, false, false, false, false, false, false, false, false, false, false] rfl rfl (by kernel_rfl) (fun _ _ _ h => h) (Or.inl ⟨by rfl, ?_⟩) ?_ ?_
  rotate_left
  · intro w'
    go_simp
    with_reducible rfl
  rotate_left
  · simp only [Act.put, List.setIfInBounds_toArray, List.set_cons_zero, List.set_cons_succ]
    rfl
  refine pure_ (i := 1) (N := some 13) (v := ?_) (a' := ?_) #[true, true, false, false, false, false, false, false, false, false, false, false, false, false, false, false, false, false, false, false, false, false] rfl rfl (by kernel_rfl) (fun _ _ _ h => h) (Or.inl ⟨by rfl, ?_⟩) ?_ ?_
  rotate_left
  · intro w'
    go_simp
    with_reducible rfl
  rotate_left
  · simp only [Act.put, List.setIfInBounds_toArray, List.set_cons_zero, List.set_cons_succ]
    rfl
  refine pure_ (i := 2) (N := some 14) (v := ?_) (a' := ?_) #[true, true, true, false, false, false, false, false, false, false, false, false, false, false, false, false, false, false, false, false, false, false] rfl rfl (by kernel_rfl) (fun _ _ _ h => h) (Or.inl ⟨by rfl, ?_⟩) ?_ ?_
  rotate_left
  · intro w'
    go_simp
    with_reducible rfl
  rotate_left
  · simp only [Act.put, List.setIfInBounds_toArray, List.set_cons_zero, List.set_cons_succ]
    rfl
  refine pure_ (i := 3) (N := some 15) (v := ?_) (a' := ?_) #[true, true, true, true, false, false, false, false, false, false, false, false, false, false, false, false, false, false, false, false, false, false] rfl rfl (by kernel_rfl) (fun _ _ _ h => h) (Or.inl ⟨by rfl, ?_⟩) ?_ ?_
  rotate_left
  · intro w'
    go_simp
    with_reducible rfl
  rotate_left
  · simp only [Act.put, List.setIfInBounds_toArray, List.set_cons_zero, List.set_cons_succ]
    rfl
  refine pure_ (i := 4) (N := some 16) (v := ?_) (a' := ?_) #[true, true, true, true, true, false, false, false, false, false, false, false, false, false, false, false, false, false, false, false, false, false] rfl rfl (by kernel_rfl) (fun _ _ _ h => h) (Or.inl ⟨by rfl, ?_⟩) ?_ ?_
  rotate_left
  · intro w'
    go_simp
    with_reducible rfl
  rotate_left
  · simp only [Act.put, List.setIfInBounds_toArray, List.set_cons_zero, List.set_cons_succ]
    rfl
  refine pure_ (i := 5) (N := some 17) (v := ?_) (a' := ?_) #[true, true, true, true, true, true, false, false, false, false, false, false, false, false, false, false, false, false, false, false, false, false] rfl rfl (by kernel_rfl) (fun _ _ _ h => h) (Or.inl ⟨by rfl, ?_⟩) ?_ ?_
  rotate_left
  · intro w'
    go_simp
    with_reducible rfl
  rotate_left
  · simp only [Act.put, List.setIfInBounds_toArray, List.set_cons_zero, List.set_cons_succ]
    rfl
  refine take_ (i := 6) (N := some 18) (v := ?_) (a' := ?_) #[true, true, true, true, true, true, true, false, false, false, false, false, false, false, false, false, false, false, false, false, false, false] rfl rfl (by kernel_rfl) (fun _ _ _ h => h) (Or.inl ⟨by rfl, ?_⟩) hHeld ?_ ?_
  rotate_left
  · rintro w' ⟨s0, s1, s2⟩
    go_simp
    with_reducible rfl
  rotate_left
  · simp only [Act.put, List.setIfInBounds_toArray, List.set_cons_zero, List.set_cons_succ]
    rfl
  refine pure_ (i := 7) (N := some 19) (v := ?_) (a' := ?_) #[true, true, true, true, true, true, true, true, false, false, false, false, false, false, false, false, false, false, false, false, false, false] rfl rfl (by kernel_rfl) (fun _ _ _ h => h) (Or.inl ⟨by rfl, ?_⟩) ?_ ?_
  rotate_left
  · intro w'
    go_simp
    with_reducible rfl
  rotate_left
  · simp only [Act.put, List.setIfInBounds_toArray, List.set_cons_zero, List.set_cons_succ]
    rfl
  refine pure_ (i := 8) (N := some 20) (v := ?_) (a' := ?_) #[true, true, true, true, true, true, true, true, true, false, false, false, false, false, false, false, false, false, false, false, false, false] rfl rfl (by kernel_rfl) (fun _ _ _ h => h) (Or.inl ⟨by rfl, ?_⟩) ?_ ?_
  rotate_left
  · intro w'
    go_simp
    with_reducible rfl
  rotate_left
  · simp only [Act.put, List.setIfInBounds_toArray, List.set_cons_zero, List.set_cons_succ]
    rfl
  refine pure_ (i := 9) (N := some 21) (v := ?_) (a' := ?_) #[true, true, true, true, true, true, true, true, true, true, false, false, false, false, false, false, false, false, false, false, false, false] rfl rfl (by kernel_rfl) (fun _ _ _ h => h) (Or.inl ⟨by rfl, ?_⟩) ?_ ?_
  rotate_left
  · intro w'
    go_simp
    with_reducible rfl
  rotate_left
  · simp only [Act.put, List.setIfInBounds_toArray, List.set_cons_zero, List.set_cons_succ]
    rfl
  refine take_ (i := 10) (N := some 22) (v := ?_) (a' := ?_) #[true, true, true, true, true, true, true, true, true, true, true, false, false, false, false, false, false, false, false, false, false, false] rfl rfl (by kernel_rfl) (fun _ _ _ h => h) (Or.inl ⟨by rfl, ?_⟩) hHeld ?_ ?_
  rotate_left
  · rintro w' ⟨s0, s1, s2⟩
    go_simp
    with_reducible rfl
  rotate_left
  · simp only [Act.put, List.setIfInBounds_toArray, List.set_cons_zero, List.set_cons_succ]
    rfl
  refine pure_ (i := 11) (N := some 23) (v := ?_) (a' := ?_) #[true, true, true, true, true, true, true, true, true, true, true, true, false, false, false, false, false, false, false, false, false, false] rfl rfl (by kernel_rfl) (fun _ _ _ h => h) (Or.inl ⟨by rfl, ?_⟩) ?_ ?_
  rotate_left
  · intro w'
    go_simp
    with_reducible rfl
  rotate_left
  · simp only [Act.put, List.setIfInBounds_toArray, List.set_cons_zero, List.set_cons_succ]
    rfl
  refine pure_ (i := 12) (N := some 24) (v := ?_) (a' := ?_) #[true, true, true, true, true, true, true, true, true, true, true, true, true, false, false, false, false, false, false, false, false, false] rfl rfl (by kernel_rfl) (fun _ _ _ h => h) (Or.inl ⟨by rfl, ?_⟩) ?_ ?_
  rotate_left
  · intro w'
    go_simp
    with_reducible rfl
  rotate_left
  · simp only [Act.put, List.setIfInBounds_toArray, List.set_cons_zero, List.set_cons_succ]
    rfl
  refine pure_ (i := 13) (N := some 25) (v := ?_) (a' := ?_) #[true, true, true, true, true, true, true, true, true, true, true, true, true, true, false, false, false, false, false, false, false, false] rfl rfl (by kernel_rfl) (fun _ _ _ h => h) (Or.inl ⟨by rfl, ?_⟩) ?_ ?_
  rotate_left
  · intro w'
    go_simp
    with_reducible rfl
  rotate_left
  · simp only [Act.put, List.setIfInBounds_toArray, List.set_cons_zero, List.set_cons_succ]
    rfl
  refine take_ (i := 14) (N := some 26) (v := ?_) (a' := ?_) #[true, true, true, true, true, true, true, true, true, true, true, true, true, true, true, false, false, false, false, false, false, false] rfl rfl (by kernel_rfl) (fun _ _ _ h => h) (Or.inl ⟨by rfl, ?_⟩) hHeld ?_ ?_
  rotate_left
  · rintro w' ⟨s0, s1, s2⟩
    go_simp
    with_reducible rfl
  rotate_left
  · simp only [Act.put, List.setIfInBounds_toArray, List.set_cons_zero, List.set_cons_succ]
    rfl
  refine pure_ (i := 15) (N := some 27) (v := ?_) (a' := ?_) #[true, true, true, true, true, true, true, true, true, true, true, true, true, true, true, true, false, false, false, false, false, false] rfl rfl (by kernel_rfl) (fun _ _ _ h => h) (Or.inl ⟨by rfl, ?_⟩) ?_ ?_
  rotate_left
  · intro w'
    go_simp
    with_reducible rfl
  rotate_left
  · simp only [Act.put, List.setIfInBounds_toArray, List.set_cons_zero, List.set_cons_succ]
    rfl
  refine pure_ (i := 16) (N := some 28) (v := ?_) (a' := ?_) #[true, true, true, true, true, true, true, true, true, true, true, true, true, true, true, true, true, false, false, false, false, false] rfl rfl (by kernel_rfl) (fun _ _ _ h => h) (Or.inl ⟨by rfl, ?_⟩) ?_ ?_
  rotate_left
  · intro w'
    go_simp
    with_reducible rfl
  rotate_left
  · simp only [Act.put, List.setIfInBounds_toArray, List.set_cons_zero, List.set_cons_succ]
    rfl
  refine pure_ (i := 17) (N := some 29) (v := ?_) (a' := ?_) #[true, true, true, true, true, true, true, true, true, true, true, true, true, true, true, true, true, true, false, false, false, false] rfl rfl (by kernel_rfl) (fun _ _ _ h => h) (Or.inl ⟨by rfl, ?_⟩) ?_ ?_
  rotate_left
  · intro w'
    go_simp
    with_reducible rfl
  rotate_left
  · simp only [Act.put, List.setIfInBounds_toArray, List.set_cons_zero, List.set_cons_succ]
    rfl
  refine take_ (i := 18) (N := some 30) (v := ?_) (a' := ?_) #[true, true, true, true, true, true, true, true, true, true, true, true, true, true, true, true, true, true, true, false, false, false] rfl rfl (by kernel_rfl) (fun _ _ _ h => h) (Or.inl ⟨by rfl, ?_⟩) hHeld ?_ ?_
  rotate_left
  · rintro w' ⟨s0, s1, s2⟩
    go_simp
    with_reducible rfl
  rotate_left
  · simp only [Act.put, List.setIfInBounds_toArray, List.set_cons_zero, List.set_cons_succ]
    rfl
  refine pure_ (i := 19) (N := some 31) (v := ?_) (a' := ?_) #[true, true, true, true, true, true, true, true, true, true, true, true, true, true, true, true, true, true, true, true, false, false] rfl rfl (by kernel_rfl) (fun _ _ _ h => h) (Or.inl ⟨by rfl, ?_⟩) ?_ ?_
  rotate_left
  · intro w'
    go_simp
    with_reducible rfl
  rotate_left
  · simp only [Act.put, List.setIfInBounds_toArray, List.set_cons_zero, List.set_cons_succ]
    rfl
  refine pure_ (i := 20) (N := some 32) (v := ?_) (a' := ?_) #[true, true, true, true, true, true, true, true, true, true, true, true, true, true, true, true, true, true, true, true, true, false] rfl rfl (by kernel_rfl) (fun _ _ _ h => h) (Or.inl ⟨by rfl, ?_⟩) ?_ ?_
  rotate_left
  · intro w'
    go_simp
    with_reducible rfl
  rotate_left
  · simp only [Act.put, List.setIfInBounds_toArray, List.set_cons_zero, List.set_cons_succ]
    rfl
  refine pure_ (i := 21) (N := some 33) (v := ?_) (a' := ?_) #[true, true, true, true, true, true, true, true, true, true, true, true, true, true, true, true, true, true, true, true, true, true] rfl rfl (by kernel_rfl) (fun _ _ _ h => h) (Or.inl ⟨by rfl, ?_⟩) ?_ ?_
  rotate_left
  · intro w'
    go_simp
    with_reducible rfl
  rotate_left
  · simp only [Act.put, List.setIfInBounds_toArray, List.set_cons_zero, List.set_cons_succ]
    rfl
  refine done_ (by kernel_rfl) ?_
  have v0 : (w.alloc (.cells #[.int .i64 0, .int .u32 0, .slice none 0 0] 44)).drew.cell? ⟨gs, i * 5, none⟩ = some (.int .i64 id) := x0
  have v1 : (w.alloc (.cells #[.int .i64 0, .int .u32 0, .slice none 0 0] 44)).drew.cell? ⟨gs, i * 5 + 1, none⟩ = some (.int .i64 1) := x1
  have v2 : (w.alloc (.cells #[.int .i64 0, .int .u32 0, .slice none 0 0] 44)).drew.cell? ⟨gs, i * 5 + 2, none⟩ = some (.slice Ap lp cp) := x2
  have v3 : (w.alloc (.cells #[.int .i64 0, .int .u32 0, .slice none 0 0] 44)).drew.cell? ⟨gs, i * 5 + 3, none⟩ = some (.slice B m e') := x3
  have v4 : (w.alloc (.cells #[.int .i64 0, .int .u32 0, .slice none 0 0] 44)).drew.cell? ⟨gs, i * 5 + 4, none⟩ = some (.int .i64 (R.pk : Nat)) := x4
  have p3 : (w.alloc (.cells #[.int .i64 0, .int .u32 0, .slice none 0 0] 44)).drew.cell? ⟨g, 3, none⟩ = some (.slice (some ⟨gs, 0, none⟩) n c) := q3
  clear x0 x1 x2 x3 x4 q3 HP hHeld
  generalize (w.alloc (.cells #[.int .i64 0, .int .u32 0, .slice none 0 0] 44)).drew = V0 at *
  go_upto_region 5 with (fail)
  have HX1 : Hid ((V0.alloc (.cells #[.int .i64 id, .int .i64 1, .slice Ap lp cp, .slice B m e', .int .i64 (R.pk : Nat)] 113)).heap[V0.heap.size]? = some (.cells #[.int .i64 id, .int .i64 1, .slice Ap lp cp, .slice B m e', .int .i64 (R.pk : Nat)] 113 (0, 0))) := Lib.hid (blk_new V0 _)
  have HX0' := Lib.hid (blk_alloc HX0.out (.cells #[.int .i64 id, .int .i64 1, .slice Ap lp cp, .slice B m e', .int .i64 (R.pk : Nat)] 113))
  have HU1 : Hid (Upd (fun _ => False) own w o1 (V0.alloc (.cells #[.int .i64 id, .int .i64 1, .slice Ap lp cp, .slice B m e', .int .i64 (R.pk : Nat)] 113))) := Lib.hid (HU0.out.then (Upd.box _))
  have HR1 := Lib.hid (HR0.out.upd (T := fun _ => False) (fun h => h) (fun _ _ _ h => h) (Upd.box (.cells #[.int .i64 id, .int .i64 1, .slice Ap lp cp, .slice B m e', .int .i64 (R.pk : Nat)] 113)))
  have Hs1 : Hid (w.heap.size + 1 < (V0.alloc (.cells #[.int .i64 id, .int .i64 1, .slice Ap lp cp, .slice B m e', .int .i64 (R.pk : Nat)] 113)).heap.size) := Lib.hid (by rw [World.size_alloc, HsV.out]; exact Nat.lt_succ_self _)
  clear v0 v1 v2 v3 v4 p3 HX0 HU0 HR0 k2
  generalize V0.alloc (.cells #[.int .i64 id, .int .i64 1, .slice Ap lp cp, .slice B m e', .int .i64 (R.pk : Nat)] 113) = W1 at *
  rw [show V0.heap.size = w.heap.size + 1 from HsV.out] at HX1 ⊢
  obtain ⟨b1, hb1⟩ : ∃ b1, b1 = w.heap.size + 1 := ⟨_, rfl⟩
  have Hb1 := Lib.hid hb1
  rw [← hb1] at HX1 ⊢
  clear hb1 HB0
  have a4 : W1.cell? ⟨b1, 4, none⟩ = some (.int .i64 (R.pk : Nat)) := blk_at HX1.out 4 rfl
  have af : W1.frozen? ⟨b1, 4, none⟩ = false := blk_frozen HX1.out 4
  go_upto_region 6 with (fail)
  clear a4 af
  have HX2 := Lib.hid (blk_put HX1.out 4 (.int .i64 ((R.pk : Int) + 1)) rfl)
  have HX02 := Lib.hid (blk_far HX0'.out (p := ⟨b1, 4, none⟩) (by have := Hb1.out; simp only []; omega) (.int .i64 ((R.pk : Int) + 1)))
  have hub : Upd (· = tg + 4) o1 W1 o1 (W1.setCell ⟨b1, 4, none⟩ (.int .i64 ((R.pk : Int) + 1))) := Upd.set (p := ⟨b1, 4, none⟩) (HO1.out b1 (by rw [Hb1.out]; omega)) _
  have HR2 := HR1.out.upd (T := (· = tg + 4)) (by omega) (fun t_ h1 h2 h3 => by omega) hub
  have HU2 : Hid (Upd (Tg tg) own w o1 (W1.setCell ⟨b1, 4, none⟩ (.int .i64 ((R.pk : Int) + 1)))) := Lib.hid ((HU1.out.mono (fun _ h => h.elim)).then (hub.mono (fun t_ ht => by unfold Tg; omega)))
  generalize W1.setCell ⟨b1, 4, none⟩ (.int .i64 ((R.pk : Int) + 1)) = W2 at *
  clear hub HX1 HX0' HU1 HR1 HsV Hs1
  obtain ⟨v0, v1, v2, v3, v4, vf⟩ := kS_at HR2.hr i HS.out
  have ePK : s.pk = (R.pk : Nat) := HPKE.out
  rw [ePK] at v4
  have q3 : W2.cell? ⟨g, 3, none⟩ = some (.slice (some ⟨gs, 0, none⟩) n c) := by rw [HNL.out]; exact blk_at HR2.hb 3 rfl
  have HR3 : Hid (RefAt o1 (W2.drew.setCell ⟨gs, i * 5 + 4, none⟩ (.int .i64 ((R.pk : Int) + 1))) g tg ⟨R.n, R.first, R.sum, R.sts, R.ps, R.ts, R.pk + 1⟩ (some ⟨gs, 0, none⟩) c (rows.set i ⟨s.id, s.st, s.A, s.l, s.c, s.B, s.m, s.e, (R.pk + 1 : Nat)⟩) pps) := Lib.hid ((HR2.upd (T := fun _ => False) (fun h => h) (fun _ _ _ h => h) Upd.drew).setPk HS.out HIL.out (R.pk + 1) HPK1.out)
  have hog : o1 gs = tg + 1 := by
    obtain ⟨gs', hgs, -, -, hog, -, -⟩ := kS_ptr HR2.hr (by rw [HIL.out]; omega)
    injection hgs with hgs
    injection hgs with hgs
    subst hgs
    exact hog
  have hne1 : b1 ≠ gs := fun e => by have := HO1.out b1 (by rw [Hb1.out]; omega); rw [e] at this; omega
  have hne0 : w.heap.size ≠ gs := fun e => by have := HO1.out w.heap.size (Nat.le_refl _); rw [e] at this; omega
  have HOG := Lib.hid hog
  refine start_ (n := 10) (S := (fun w' => w'.cell? ⟨g, 3, none⟩ = some (.slice (some ⟨gs, 0, none⟩) n c) ∧ w'.cell? ⟨b1, 4, none⟩ = some (.int .i64 ((R.pk : Int) + 1)))) (ds := [9]) #[false, false, false, false, false, false, false, false, false, false] (by kernel_rfl) rfl rfl ⟨(show W2.drew.cell? _ = _ from q3), (show W2.drew.cell? _ = _ from blk_at HX2.out 4 rfl)⟩ (fun hHeld => ?_)
  have y4 : W2.drew.cell? ⟨gs, i * 5 + 4, none⟩ = some (.int .i64 (R.pk : Nat)) := v4
  have z4 : W2.drew.frozen? ⟨gs, i * 5 + 4, none⟩ = false := vf _
  refine pure_ (i := 0) (N := some 46) (v := ?_) (a' := ?_) #[true, false, false, false, false, false, false, false, false, false] rfl rfl (by kernel_rfl) (fun _ _ _ h => h) (Or.inl ⟨by rfl, ?_⟩) ?_ ?_
  rotate_left
  · intro w'
    go_simp
    with_reducible rfl
  rotate_left
  · simp only [Act.put, List.setIfInBounds_toArray, List.set_cons_zero, List.set_cons_succ]
    rfl
  refine pure_ (i := 1) (N := some 47) (v := ?_) (a' := ?_) #[true, true, false, false, false, false, false, false, false, false] rfl rfl (by kernel_rfl) (fun _ _ _ h => h) (Or.inl ⟨by rfl, ?_⟩) ?_ ?_
  rotate_left
  · intro w'
    go_simp
    with_reducible rfl
  rotate_left
  · simp only [Act.put, List.setIfInBounds_toArray, List.set_cons_zero, List.set_cons_succ]
    rfl
  refine pure_ (i := 2) (N := some 48) (v := ?_) (a' := ?_) #[true, true, true, false, false, false, false, false, false, false] rfl rfl (by kernel_rfl) (fun _ _ _ h => h) (Or.inl ⟨by rfl, ?_⟩) ?_ ?_
  rotate_left
  · intro w'
    go_simp
    with_reducible rfl
  rotate_left
  · simp only [Act.put, List.setIfInBounds_toArray, List.set_cons_zero, List.set_cons_succ]
    rfl
  refine take_ (i := 3) (N := some 49) (v := ?_) (a' := ?_) #[true, true, true, true, false, false, false, false, false, false] rfl rfl (by kernel_rfl) (fun _ _ _ h => h) (Or.inl ⟨by rfl, ?_⟩) hHeld ?_ ?_
  rotate_left
  · rintro w' ⟨s0, s1⟩
    go_simp
    with_reducible rfl
  rotate_left
  · simp only [Act.put, List.setIfInBounds_toArray, List.set_cons_zero, List.set_cons_succ]
    rfl
  refine pure_ (i := 4) (N := some 50) (v := ?_) (a' := ?_) #[true, true, true, true, true, false, false, false, false, false] rfl rfl (by kernel_rfl) (fun _ _ _ h => h) (Or.inl ⟨by rfl, ?_⟩) ?_ ?_
  rotate_left
  · intro w'
    go_simp
    with_reducible rfl
  rotate_left
  · simp only [Act.put, List.setIfInBounds_toArray, List.set_cons_zero, List.set_cons_succ]
    rfl
  refine pure_ (i := 5) (N := some 51) (v := ?_) (a' := ?_) #[true, true, true, true, true, true, false, false, false, false] rfl rfl (by kernel_rfl) (fun _ _ _ h => h) (Or.inl ⟨by rfl, ?_⟩) ?_ ?_
  rotate_left
  · intro w'
    go_simp
    with_reducible rfl
  rotate_left
  · simp only [Act.put, List.setIfInBounds_toArray, List.set_cons_zero, List.set_cons_succ]
    rfl
  refine take_ (i := 6) (N := some 52) (v := ?_) (a' := ?_) #[true, true, true, true, true, true, true, false, false, false] rfl rfl (by kernel_rfl) (fun _ _ _ h => h) (Or.inl ⟨by rfl, ?_⟩) hHeld ?_ ?_
  rotate_left
  · rintro w' ⟨s0, s1⟩
    go_simp
    with_reducible rfl
  rotate_left
  · simp only [Act.put, List.setIfInBounds_toArray, List.set_cons_zero, List.set_cons_succ]
    rfl
  refine pure_ (i := 7) (N := some 53) (v := ?_) (a' := ?_) #[true, true, true, true, true, true, true, true, false, false] rfl rfl (by kernel_rfl) (fun _ _ _ h => h) (Or.inl ⟨by rfl, ?_⟩) ?_ ?_
  rotate_left
  · intro w'
    go_simp
    with_reducible rfl
  rotate_left
  · simp only [Act.put, List.setIfInBounds_toArray, List.set_cons_zero, List.set_cons_succ]
    rfl
  refine pure_ (i := 8) (N := some 54) (v := ?_) (a' := ?_) #[true, true, true, true, true, true, true, true, true, false] rfl rfl (by kernel_rfl) (fun _ _ _ h => h) (Or.inl ⟨by rfl, ?_⟩) ?_ ?_
  rotate_left
  · intro w'
    go_simp
    with_reducible rfl
  rotate_left
  · simp only [Act.put, List.setIfInBounds_toArray, List.set_cons_zero, List.set_cons_succ]
    rfl
  refine last_ (i := 9) (N := none) #[true, true, true, true, true, true, true, true, true, true] rfl rfl (by kernel_rfl) (by decide) (fun K hK => ?_)
  refine skip_ (w1 := W2.drew.setCell ⟨gs, i * 5 + 4, none⟩ (.int .i64 ((R.pk : Int) + 1))) (by rfl) rfl (by go_simp) ?_
  refine hK.out _ _ ?_
  clear hK K
  refine done_ (by kernel_rfl) ?_
  have HX3 : Hid ((W2.drew.setCell ⟨gs, i * 5 + 4, none⟩ (.int .i64 ((R.pk : Int) + 1))).heap[b1]? = some (.cells #[.int .i64 id, .int .i64 1, .slice Ap lp cp, .slice B m e', .int .i64 ((R.pk : Int) + 1)] 113 (0, 0))) := Lib.hid (blk_far HX2.out (w := W2.drew) (p := ⟨gs, i * 5 + 4, none⟩) hne1 (.int .i64 ((R.pk : Int) + 1)))
  have HX03 : Hid ((W2.drew.setCell ⟨gs, i * 5 + 4, none⟩ (.int .i64 ((R.pk : Int) + 1))).heap[w.heap.size]? = some (.cells #[.int .i64 0, .int .u32 0, .slice none 0 0] 44 (0, 0))) := Lib.hid (blk_far HX02.out (w := W2.drew) (p := ⟨gs, i * 5 + 4, none⟩) hne0 (.int .i64 ((R.pk : Int) + 1)))
  have HU3 : Hid (Upd (Tg tg) own w o1 (W2.drew.setCell ⟨gs, i * 5 + 4, none⟩ (.int .i64 ((R.pk : Int) + 1)))) := Lib.hid ((HU2.out.then Upd.drew).then ((Upd.row HOG.out _ _).mono (fun t_ ht => by unfold Tg; omega)))
  clear hHeld v0 v1 v2 v3 v4 vf q3 HR2 HX2 HX02 HU2 ePK hne1 hne0 y4 z4
  generalize W2.drew.setCell ⟨gs, i * 5 + 4, none⟩ (.int .i64 ((R.pk : Int) + 1)) = W3 at *
  have q0 : W3.cell? ⟨g, 0, none⟩ = some (.int .i64 (t : Nat)) := by rw [HT.out]; exact blk_at HR3.out.hb 0 rfl
  go_upto_region 7 with (fail)
  refine start_ (n := 7) (S := (fun w' => w'.cell? ⟨b1, 4, none⟩ = some (.int .i64 ((R.pk : Int) + 1)) ∧ w'.cell? ⟨g, 0, none⟩ = some (.int .i64 (t : Nat)))) (ds := []) #[false, false, false, false, false, false, false] (by kernel_rfl) rfl rfl ⟨(show W3.drew.cell? _ = _ from blk_at HX3.out 4 rfl), (show W3.drew.cell? _ = _ from q0)⟩ (fun hHeld => ?_)
  refine pure_ (i := 0) (N := some 55) (v := ?_) (a' := ?_) #[true, false, false, false, false, false, false] rfl rfl (by kernel_rfl) (fun _ _ _ h => h) (Or.inl ⟨by rfl, ?_⟩) ?_ ?_
  rotate_left
  · intro w'
    go_simp
    with_reducible rfl
  rotate_left
  · simp only [Act.put, List.setIfInBounds_toArray, List.set_cons_zero, List.set_cons_succ]
    rfl
  refine take_ (i := 1) (N := some 56) (v := ?_) (a' := ?_) #[true, true, false, false, false, false, false] rfl rfl (by kernel_rfl) (fun _ _ _ h => h) (Or.inl ⟨by rfl, ?_⟩) hHeld ?_ ?_
  rotate_left
  · rintro w' ⟨s0, s1⟩
    go_simp
    with_reducible rfl
  rotate_left
  · simp only [Act.put, List.setIfInBounds_toArray, List.set_cons_zero, List.set_cons_succ]
    rfl
  refine pure_ (i := 2) (N := some 57) (v := ?_) (a' := ?_) #[true, true, true, false, false, false, false] rfl rfl (by kernel_rfl) (fun _ _ _ h => h) (Or.inl ⟨by rfl, ?_⟩) ?_ ?_
  rotate_left
  · intro w'
    go_simp
    with_reducible rfl
  rotate_left
  · simp only [Act.put, List.setIfInBounds_toArray, List.set_cons_zero, List.set_cons_succ]
    rfl
  refine pure_ (i := 3) (N := some 58) (v := ?_) (a' := ?_) #[true, true, true, true, false, false, false] rfl rfl (by kernel_rfl) (fun _ _ _ h => h) (Or.inl ⟨by rfl, ?_⟩) ?_ ?_
  rotate_left
  · intro w'
    go_simp
    with_reducible rfl
  rotate_left
  · simp only [Act.put, List.setIfInBounds_toArray, List.set_cons_zero, List.set_cons_succ]
    rfl
  refine pure_ (i := 4) (N := some 59) (v := ?_) (a' := ?_) #[true, true, true, true, true, false, false] rfl rfl (by kernel_rfl) (fun _ _ _ h => h) (Or.inl ⟨by rfl, ?_⟩) ?_ ?_
  rotate_left
  · intro w'
    go_simp
    with_reducible rfl
  rotate_left
  · simp only [Act.put, List.setIfInBounds_toArray, List.set_cons_zero, List.set_cons_succ]
    rfl
  refine take_ (i := 5) (N := some 60) (v := ?_) (a' := ?_) #[true, true, true, true, true, true, false] rfl rfl (by kernel_rfl) (fun _ _ _ h => h) (Or.inl ⟨by rfl, ?_⟩) hHeld ?_ ?_
  rotate_left
  · rintro w' ⟨s0, s1⟩
    go_simp
    with_reducible rfl
  rotate_left
  · simp only [Act.put, List.setIfInBounds_toArray, List.set_cons_zero, List.set_cons_succ]
    rfl
  refine pure_ (i := 6) (N := some 61) (v := ?_) (a' := ?_) #[true, true, true, true, true, true, true] rfl rfl (by kernel_rfl) (fun _ _ _ h => h) (Or.inl ⟨by rfl, ?_⟩) ?_ ?_
  rotate_left
  · intro w'
    go_simp
    with_reducible rfl
  rotate_left
  · simp only [Act.put, List.setIfInBounds_toArray, List.set_cons_zero, List.set_cons_succ]
    rfl
  refine done_ (by kernel_rfl) ?_
  clear q0 hHeld
  have HX4 : Hid (W3.drew.heap[b1]? = some (.cells #[.int .i64 id, .int .i64 1, .slice Ap lp cp, .slice B m e', .int .i64 ((R.pk : Int) + 1)] 113 (0, 0))) := HX3
  have HX04 : Hid (W3.drew.heap[w.heap.size]? = some (.cells #[.int .i64 0, .int .u32 0, .slice none 0 0] 44 (0, 0))) := HX03
  have HU4 : Hid (Upd (Tg tg) own w o1 W3.drew) := Lib.hid (HU3.out.then Upd.drew)
  have HR4 := Lib.hid (HR3.out.upd (T := fun _ => False) (fun h => h) (fun _ _ _ h => h) Upd.drew)
  clear HX3 HX03 HU3 HR3
  generalize W3.drew = W4 at *
  have HS4 : Hid ((rows.set i ⟨s.id, s.st, s.A, s.l, s.c, s.B, s.m, s.e, (R.pk + 1 : Nat)⟩)[i]? = some ⟨s.id, s.st, s.A, s.l, s.c, s.B, s.m, s.e, (R.pk + 1 : Nat)⟩) := Lib.hid (List.getElem?_set_self (by rw [HIL.out]; omega))
  obtain ⟨v0, v1, v2, v3, v4, vf⟩ := kS_at HR4.out.hr i HS4.out
  have q3 : W4.cell? ⟨g, 3, none⟩ = some (.slice (some ⟨gs, 0, none⟩) n c) := by have := blk_at HR4.out.hb 3 rfl; rw [List.length_set, ← HNL.out] at this; exact this
  have z1 := vf (i * 5 + 1)
  clear v0 v2 v3 v4 vf
  have hne1 : b1 ≠ gs := fun e => by have := HO1.out b1 (by rw [Hb1.out]; omega); rw [e] at this; have := HOG.out; omega
  have hne0 : w.heap.size ≠ gs := fun e => by have := HO1.out w.heap.size (Nat.le_refl _); rw [e] at this; have := HOG.out; omega
  go_upto_region 10 with (fail)
  have HX5 := Lib.hid (blk_far HX4.out (p := ⟨gs, i * 5 + 1, none⟩) hne1 (.int .i64 2))
  have HX05 := Lib.hid (blk_far HX04.out (p := ⟨gs, i * 5 + 1, none⟩) hne0 (.int .i64 2))
  have HU5 : Hid (Upd (Tg tg) own w o1 (W4.setCell ⟨gs, i * 5 + 1, none⟩ (.int .i64 2))) := Lib.hid (HU4.out.then ((Upd.row HOG.out _ _).mono (fun t_ ht => by unfold Tg; omega)))
  have hr5 := HR4.out.setSt HS4.out 2
  simp only [List.set_set] at hr5
  have HR5 := Lib.hid hr5
  clear v1 q3 z1 hne1 hne0 hr5 HX4 HX04 HU4 HR4
  generalize W4.setCell ⟨gs, i * 5 + 1, none⟩ (.int .i64 2) = W5 at *
  obtain ⟨sum, hsum⟩ : ∃ sum, sum = R.sum := ⟨_, rfl⟩
  have HSM := Lib.hid hsum
  have HG5 := Lib.hid HR5.out.hb
  have q2 : W5.cell? ⟨g, 2, none⟩ = some (.int .u32 sum) := by rw [hsum]; exact blk_at HR5.out.hb 2 rfl
  simp only [← hsum] at HG5
  clear hsum
  refine start_ (n := 9) (S := (fun w' => w'.cell? ⟨b1, 0, none⟩ = some (.int .i64 id) ∧ w'.cell? ⟨g, 2, none⟩ = some (.int .u32 sum))) (ds := [8]) #[false, false, false, false, false, false, false, false, false] (by kernel_rfl) rfl rfl ⟨(show W5.drew.cell? _ = _ from blk_at HX5.out 0 rfl), (show W5.drew.cell? _ = _ from q2)⟩ (fun hHeld => ?_)
  refine pure_ (i := 0) (N := some 70) (v := ?_) (a' := ?_) #[true, false, false, false, false, false, false, false, false] rfl rfl (by kernel_rfl) (fun _ _ _ h => h) (Or.inl ⟨by rfl, ?_⟩) ?_ ?_
  rotate_left
  · intro w'
    go_simp
    with_reducible rfl
  rotate_left
  · simp only [Act.put, List.setIfInBounds_toArray, List.set_cons_zero, List.set_cons_succ]
    rfl
  refine take_ (i := 1) (N := some 71) (v := ?_) (a' := ?_) #[true, true, false, false, false, false, false, false, false] rfl rfl (by kernel_rfl) (fun _ _ _ h => h) (Or.inl ⟨by rfl, ?_⟩) hHeld ?_ ?_
  rotate_left
  · rintro w' ⟨s0, s1⟩
    go_simp
    with_reducible rfl
  rotate_left
  · simp only [Act.put, List.setIfInBounds_toArray, List.set_cons_zero, List.set_cons_succ]
    rfl
  refine pure_ (i := 2) (N := some 72) (v := ?_) (a' := ?_) #[true, true, true, false, false, false, false, false, false] rfl rfl (by kernel_rfl) (fun _ _ _ h => h) (Or.inl ⟨by rfl, ?_⟩) ?_ ?_
  rotate_left
  · intro w'
    go_simp
    with_reducible rfl
  rotate_left
  · simp only [Act.put, List.setIfInBounds_toArray, List.set_cons_zero, List.set_cons_succ]
    rfl
  refine pure_ (i := 3) (N := some 73) (v := ?_) (a' := ?_) #[true, true, true, true, false, false, false, false, false] rfl rfl (by kernel_rfl) (fun _ _ _ h => h) (Or.inl ⟨by rfl, ?_⟩) ?_ ?_
  rotate_left
  · intro w'
    go_simp
    with_reducible rfl
  rotate_left
  · simp only [Act.put, List.setIfInBounds_toArray, List.set_cons_zero, List.set_cons_succ]
    rfl
  refine pure_ (i := 4) (N := some 74) (v := ?_) (a' := ?_) #[true, true, true, true, true, false, false, false, false] rfl rfl (by kernel_rfl) (fun _ _ _ h => h) (Or.inl ⟨by rfl, ?_⟩) ?_ ?_
  rotate_left
  · intro w'
    go_simp
    with_reducible rfl
  rotate_left
  · simp only [Act.put, List.setIfInBounds_toArray, List.set_cons_zero, List.set_cons_succ]
    rfl
  refine take_ (i := 5) (N := some 75) (v := ?_) (a' := ?_) #[true, true, true, true, true, true, false, false, false] rfl rfl (by kernel_rfl) (fun _ _ _ h => h) (Or.inl ⟨by rfl, ?_⟩) hHeld ?_ ?_
  rotate_left
  · rintro w' ⟨s0, s1⟩
    go_simp
    with_reducible rfl
  rotate_left
  · simp only [Act.put, List.setIfInBounds_toArray, List.set_cons_zero, List.set_cons_succ]
    rfl
  refine pure_ (i := 6) (N := some 76) (v := ?_) (a' := ?_) #[true, true, true, true, true, true, true, false, false] rfl rfl (by kernel_rfl) (fun _ _ _ h => h) (Or.inl ⟨by rfl, ?_⟩) ?_ ?_
  rotate_left
  · intro w'
    go_simp
    with_reducible rfl
  rotate_left
  · simp only [Act.put, List.setIfInBounds_toArray, List.set_cons_zero, List.set_cons_succ]
    rfl
  refine one_ (i := 7) (N := some 6) #[true, true, true, true, true, true, true, true, false] rfl rfl (by kernel_rfl) (by decide) (fun K hK => ?_)
  refine value_ (w1 := (W5.drew.alloc (.cells #[.int .i64 0, .int .u32 0, .slice none 0 0] 44))) (v := .pointer (some ⟨W5.drew.heap.size, 0, none⟩)) (by rfl) rfl (by go_simp) ?_
  refine hK.out _ _ ⟨blk_at (blk_alloc (w := W5.drew) HX5.out (.cells #[.int .i64 0, .int .u32 0, .slice none 0 0] 44)) 0 rfl, blk_at (blk_alloc (w := W5.drew) HG5.out (.cells #[.int .i64 0, .int .u32 0, .slice none 0 0] 44)) 2 rfl⟩ (fun hHeld => ?_)
  clear hK K
  refine norm_ (a' := ?_) ?_ ?_
  rotate_left
  · show Act.put _ (some 6) _ = _
    simp only [Act.put, List.setIfInBounds_toArray, List.set_cons_zero, List.set_cons_succ]
    rfl
  refine last_ (i := 8) (N := none) #[true, true, true, true, true, true, true, true, true] rfl rfl (by kernel_rfl) (by decide) (fun K hK => ?_)
  have y0 : (W5.drew.alloc (.cells #[.int .i64 0, .int .u32 0, .slice none 0 0] 44)).cell? ⟨W5.drew.heap.size, 0, none⟩ = some (.int .i64 0) := blk_at (blk_new W5.drew (.cells #[.int .i64 0, .int .u32 0, .slice none 0 0] 44)) 0 rfl
  have y1 : (W5.drew.alloc (.cells #[.int .i64 0, .int .u32 0, .slice none 0 0] 44)).cell? ⟨W5.drew.heap.size, 1, none⟩ = some (.int .u32 0) := blk_at (blk_new W5.drew (.cells #[.int .i64 0, .int .u32 0, .slice none 0 0] 44)) 1 rfl
  have y2 : (W5.drew.alloc (.cells #[.int .i64 0, .int .u32 0, .slice none 0 0] 44)).cell? ⟨W5.drew.heap.size, 2, none⟩ = some (.slice none 0 0) := blk_at (blk_new W5.drew (.cells #[.int .i64 0, .int .u32 0, .slice none 0 0] 44)) 2 rfl
  have z0 : (W5.drew.alloc (.cells #[.int .i64 0, .int .u32 0, .slice none 0 0] 44)).frozen? ⟨W5.drew.heap.size, 0, none⟩ = false := blk_frozen (blk_new W5.drew (.cells #[.int .i64 0, .int .u32 0, .slice none 0 0] 44)) 0
  have z1 : (W5.drew.alloc (.cells #[.int .i64 0, .int .u32 0, .slice none 0 0] 44)).frozen? ⟨W5.drew.heap.size, 1, none⟩ = false := blk_frozen (blk_new W5.drew (.cells #[.int .i64 0, .int .u32 0, .slice none 0 0] 44)) 1
  have z2 : (W5.drew.alloc (.cells #[.int .i64 0, .int .u32 0, .slice none 0 0] 44)).frozen? ⟨W5.drew.heap.size, 2, none⟩ = false := blk_frozen (blk_new W5.drew (.cells #[.int .i64 0, .int .u32 0, .slice none 0 0] 44)) 2
  refine skip_ (w1 := ((((W5.drew.alloc (.cells #[.int .i64 0, .int .u32 0, .slice none 0 0] 44)).setCell ⟨W5.drew.heap.size, 0, none⟩ (.int .i64 id)).setCell ⟨W5.drew.heap.size, 1, none⟩ (.int .u32 sum)).setCell ⟨W5.drew.heap.size, 2, none⟩ (.slice none 0 0))) (by rfl) rfl (by go_simp) ?_
  refine hK.out _ _ ?_
  clear hK K y0 y1 y2 z0 z1 z2
  refine done_ (by kernel_rfl) ?_
  have HX7 : Hid (((((W5.drew.alloc (.cells #[.int .i64 0, .int .u32 0, .slice none 0 0] 44)).setCell ⟨W5.drew.heap.size, 0, none⟩ (.int .i64 id)).setCell ⟨W5.drew.heap.size, 1, none⟩ (.int .u32 sum)).setCell ⟨W5.drew.heap.size, 2, none⟩ (.slice none 0 0)).heap[W5.drew.heap.size]? = some (.cells #[.int .i64 id, .int .u32 sum, .slice none 0 0] 44 (0, 0))) := Lib.hid (blk_put (blk_put (blk_put (blk_new W5.drew (.cells #[.int .i64 0, .int .u32 0, .slice none 0 0] 44)) 0 (.int .i64 id) rfl) 1 (.int .u32 sum) rfl) 2 (.slice none 0 0) rfl)
  have HB7 : Hid (Below W5.heap.size W5 ((((W5.drew.alloc (.cells #[.int .i64 0, .int .u32 0, .slice none 0 0] 44)).setCell ⟨W5.drew.heap.size, 0, none⟩ (.int .i64 id)).setCell ⟨W5.drew.heap.size, 1, none⟩ (.int .u32 sum)).setCell ⟨W5.drew.heap.size, 2, none⟩ (.slice none 0 0))) := Lib.hid ((((Below.refl _ _).drew.alloc (Nat.le_refl _) _).setCell (Nat.le_refl _) _ |>.setCell (Nat.le_refl _) _).setCell (Nat.le_refl _) _)
  have HZ7 : Hid (((((W5.drew.alloc (.cells #[.int .i64 0, .int .u32 0, .slice none 0 0] 44)).setCell ⟨W5.drew.heap.size, 0, none⟩ (.int .i64 id)).setCell ⟨W5.drew.heap.size, 1, none⟩ (.int .u32 sum)).setCell ⟨W5.drew.heap.size, 2, none⟩ (.slice none 0 0)).heap.size = W5.drew.heap.size + 1) := Lib.hid (by simp only [World.size_setCell, World.size_alloc])
  have Hz5 : Hid (w.heap.size + 1 < W5.drew.heap.size) := Lib.hid (by have := blk_lt HX5.out; rw [Hb1.out] at this; exact this)
  clear hHeld q2
  generalize ((((W5.drew.alloc (.cells #[.int .i64 0, .int .u32 0, .slice none 0 0] 44)).setCell ⟨W5.drew.heap.size, 0, none⟩ (.int .i64 id)).setCell ⟨W5.drew.heap.size, 1, none⟩ (.int .u32 sum)).setCell ⟨W5.drew.heap.size, 2, none⟩ (.slice none 0 0)) = W7 at *
  have HX71 := Lib.hid (blk_below HX5.out HB7.out)
  have HX70 := Lib.hid (blk_below HX05.out HB7.out)
  obtain ⟨b2, hb2⟩ : ∃ b2, b2 = W5.drew.heap.size := ⟨_, rfl⟩
  obtain ⟨o2, ho2⟩ : ∃ o2, o2 = fresh o1 W7 0 := ⟨_, rfl⟩
  have hO2b : o2 b2 = tg + 4 := by rw [ho2, fresh_old (by rw [HZ7.out, hb2]; omega), HO1.out b2 (by have := Hz5.out; rw [hb2]; omega)]
  have hO20 : o2 w.heap.size = tg + 4 := by rw [ho2, fresh_old (by have := Hz5.out; rw [HZ7.out]; omega), HO1.out _ (Nat.le_refl _)]
  have HO2n : Hid (∀ k, W7.heap.size ≤ k → o2 k = 0) := Lib.hid (fun k hk => by rw [ho2, fresh_new hk])
  have hu7 : Upd (fun _ => False) o1 W5 o2 W7 := Upd.of_below' HB7.out (fun k hk => by rw [ho2, fresh_old (Nat.lt_of_lt_of_le hk HB7.out.size)])
  have HU7 : Hid (Upd (Tg tg) own w o2 W7) := Lib.hid (HU5.out.then (hu7.mono (fun _ h => h.elim)))
  have HR7 := Lib.hid (HR5.out.upd (T := fun _ => False) (fun h => h) (fun _ _ _ h => h) hu7)
  rw [← hb2] at HX7 HZ7 Hz5 ⊢
  have HO2b := Lib.hid hO2b
  have HO20 := Lib.hid hO20
  have HS7 : Hid ((rows.set i ⟨s.id, 2, s.A, s.l, s.c, s.B, s.m, s.e, (R.pk + 1 : Nat)⟩).getLast? = some ⟨s.id, 2, s.A, s.l, s.c, s.B, s.m, s.e, (R.pk + 1 : Nat)⟩) := Lib.hid (last_at (k := i) (by rw [List.length_set]; exact HIL.out) (List.getElem?_set_self (by rw [HIL.out]; omega)))
  have hL7 := HR7.out.hl _ HS7.out
  have hp7 : (pk k40 o2 W7).R 40 W7 0 (fun k_ => o2 k_ = tg + 2) (.slice Ap lp cp) pps := by
    have := hL7.hp
    rw [congrArg SC.A HSA.out, congrArg SC.l HSA.out, congrArg SC.c HSA.out] at this
    exact this
  have ht7 : (Kd.int .i64).R 3 W7 0 (fun k_ => o2 k_ = tg + 3) (.slice B m e') R.ts := by
    have := hL7.ht
    rw [congrArg SC.B HSA.out, congrArg SC.m HSA.out, congrArg SC.e HSA.out] at this
    exact this
  have HP7 := Lib.hid hp7
  have HC7 := Lib.hid (Kd.R_reads' ht7).2.2
  rw [← HLM.out] at HC7
  have HT7 := Lib.hid ht7
  have q0 : W7.cell? ⟨g, 0, none⟩ = some (.int .i64 (t : Nat)) := by rw [HT.out]; exact blk_at HR7.out.hb 0 rfl
  have Q0 := Lib.hid q0
  have HGB : Hid (g ≠ b2) := Lib.hid (fun e => by have h1 := HR7.out.og; rw [e, hO2b] at h1; omega)
  have ht12 : t ≤ 12 := by rw [HT.out]; exact HR7.out.ok.n2
  have HPP : Hid (∀ x ∈ R.ps, partsP x ≤ 100000) := Lib.hid hpp
  have HEPP : Hid (pps.map (·.1) = R.ps) := Lib.hid HR7.out.ep
  obtain ⟨b3, hb3⟩ : ∃ b3, b3 = W7.heap.size := ⟨_, rfl⟩
  have HB3 := Lib.hid hb3
  clear hu7 hO2b hO20 hb2 ho2 hL7 hp7 ht7 q0 hpp hb3 HX5 HX05 HU5 HR5 HG5 HB7
  have HB2lt : Hid (b2 < b3) := Lib.hid (by rw [HB3.out, HZ7.out]; exact Nat.lt_succ_self _)
  have HB12 : Hid (b1 ≠ b2) := Lib.hid (by rw [Hb1.out]; have := Hz5.out; omega)
  have HB02 : Hid (w.heap.size ≠ b2) := Lib.hid (by have := Hz5.out; omega)
  have HLPM : Hid (lp = m) := Lib.hid (by rw [HLP.out, HEP.out, HLM.out, HLT.out])
  go_wp2_with (fail)
  go_loopw [7] (fun v7 wr => ∃ k : Nat, k ≤ t ∧ v7 = .int .i64 k ∧ ∃ Av cv ln, Hid (ln = (byTask R.ts R.ps k).length) ∧ Hid (wr.heap[b2]? = some (.cells #[.int .i64 id, .int .u32 sum, .slice Av ln cv] 44 (0, 0))) ∧ Hid (Kd.R k40 40 wr b3 (fun _ => True) (.slice Av ln cv) (byTask R.ts R.ps k)) ∧ Hid (W7.grownBy wr (some b2))) (fun v7 _ => t - (intOf v7).toNat)
  case atStart => exact ⟨0, Nat.zero_le _, rfl, none, 0, 0, Lib.hid rfl, HX7, Lib.hid (Kd.R_nil _ _ _ _ _), Lib.hid (grown_refl _ _)⟩
  case round =>
    obtain ⟨k, hk, rfl, Av, cv, ln, HLN, HXo, HRo, HG⟩ := hrel
    have a0 : wr.cell? ⟨g, 0, none⟩ = some (.int .i64 (t : Nat)) := grown_cell HG.out Q0.out HGB.out
    by_cases hlt : k < t
    · go_wp2_with (fail)
      go_loopw [8] (fun v8 wq => ∃ j : Nat, j ≤ m ∧ v8 = .int .i64 j ∧ ∃ Av cv ln, Hid (ln = (byTask R.ts R.ps k ++ forT R.ts R.ps (k : Int) j).length) ∧ Hid (wq.heap[b2]? = some (.cells #[.int .i64 id, .int .u32 sum, .slice Av ln cv] 44 (0, 0))) ∧ Hid (Kd.R k40 40 wq b3 (fun _ => True) (.slice Av ln cv) (byTask R.ts R.ps k ++ forT R.ts R.ps (k : Int) j)) ∧ Hid (W7.grownBy wq (some b2))) (fun v8 _ => m - (intOf v8).toNat)
      case atStart =>
        have e0 : byTask R.ts R.ps k ++ forT R.ts R.ps (k : Int) 0 = byTask R.ts R.ps k := List.append_nil _
        exact ⟨0, Nat.zero_le _, rfl, Av, cv, ln, by rw [e0]; exact HLN, HXo, by rw [e0]; exact HRo, HG⟩
      case round =>
        clear HLN HXo HRo HG a0
        obtain ⟨j, hj, rfl, Aw, cw, lw, HLW, HXi, HRi, HGi⟩ := hrel
        have b13 : wr.cell? ⟨b1, 3, none⟩ = some (.slice B m e') := grown_cell HGi.out (blk_at HX71.out 3 rfl) HB12.out
        by_cases hjl : j < m
        · obtain ⟨ad, rfl, y0⟩ := at_Int HC7.out j hjl
          have hadt := HT7.out.1 ad.block rfl
          have y1 : wr.cell? (ad.add j) = some (.int .i64 (R.ts.getD j 0)) := grown_cell HGi.out y0 (by rw [add_block]; intro e; rw [e, HO2b.out] at hadt; omega)
          have hf : forT R.ts R.ps (k : Int) (j + 1) = if (R.ts.getD j 0 == (k : Int)) = true then forT R.ts R.ps (k : Int) j ++ [R.ps.getD j z40] else forT R.ts R.ps (k : Int) j := rfl
          have HFJ := Lib.hid hf
          clear y0 hadt hf
          generalize R.ts.getD j 0 = y at *
          cases hyt : (y == (k : Int))
          · have HF2 : Hid ((byTask R.ts R.ps k ++ forT R.ts R.ps (k : Int) (j + 1)) = (byTask R.ts R.ps k ++ forT R.ts R.ps (k : Int) j)) := Lib.hid (by rw [HFJ.out, hyt]; rfl)
            go_wp2_with (fail)
            go_roundw
            case rel => exact ⟨j + 1, by omega, by go_num, Aw, cw, lw, by rw [HF2.out]; exact HLW, HXi, by rw [HF2.out]; exact HRi, HGi⟩
            case measure => simp [intOf]; omega
          · obtain ⟨ae, x, A1, c1, A2, c2, A3, c3, rfl, hq, hS, d0, d1, d2, d3⟩ := pp_at HP7.out j (by rw [HLPM.out]; exact hjl)
            have haet := HP7.out.1 ae.block rfl
            have hneb : (ae.add (j * 4)).block ≠ b2 := by rw [add_block]; intro e; rw [e, HO2b.out] at haet; omega
            have hpx : R.ps[j]? = some x := by rw [← HEPP.out, List.getElem?_map, hq]; rfl
            have hgx : R.ps.getD j z40 = x := by rw [List.getD_eq_getElem?_getD, hpx]; rfl
            have HF2 : Hid ((byTask R.ts R.ps k ++ forT R.ts R.ps (k : Int) (j + 1)) = (byTask R.ts R.ps k ++ forT R.ts R.ps (k : Int) j) ++ [x]) := Lib.hid (by rw [HFJ.out, hyt, if_pos rfl, hgx, List.append_assoc])
            have hKx := (hS.upd (S := (· = tg + 4)) (by omega) (Upd.grown HGi.out (fun k_ hk_ => by injection hk_ with hk_; rw [← hk_]; exact HO2b.out))).now
            obtain ⟨hC1, hC2, hC3⟩ := part_C hKx
            have HPT := Lib.hid (part35 x A1 c1 A2 c2 A3 c3 wr hC1 hC2 hC3 (HPP.out x (List.mem_of_getElem? hpx)))
            replace d0 := grown_cell HGi.out d0 hneb
            replace d1 := grown_cell HGi.out d1 hneb
            replace d2 := grown_cell HGi.out d2 hneb
            replace d3 := grown_cell HGi.out d3 hneb
            have b12 : wr.cell? ⟨b1, 2, none⟩ = some (.slice (some ae) lp cp) := grown_cell HGi.out (blk_at HX71.out 2 rfl) HB12.out
            have hjlp : j < lp := by rw [HLPM.out]; exact hjl
            have Hsz : Hid (b3 ≤ wr.heap.size) := Lib.hid (by rw [HB3.out]; exact HGi.out.size)
            have HLB : Hid (lw ≤ 200) := Lib.hid (by
              rw [HLW.out, List.length_append]
              have h1 := byTask_len R.ts R.ps (by rw [← HLM.out]; omega) k
              have h2 := forT_len R.ts R.ps (k : Int) j
              omega)
            clear hq hS haet hneb hpx hgx hKx hC1 hC2 hC3
            go_upto_region 19 with (go_at_call 35; refine HPT.out.mono ?_; rintro e w2 ⟨v1, v2, v3, rfl, hv1, hv2, hv3, hb⟩
                                    obtain ⟨Aa, ca, rfl⟩ := Kd.R_slice hv1.out
                                    obtain ⟨Ab, cb, rfl⟩ := Kd.R_slice hv2.out
                                    obtain ⟨Ac, cc, rfl⟩ := Kd.R_slice hv3.out)
            clear b12 b13 d0 d1 d2 d3 y1
            obtain ⟨na, hna⟩ : ∃ n, n = x.f0.f1.length := ⟨_, rfl⟩
            obtain ⟨nb, hnb⟩ : ∃ n, n = x.f1.length := ⟨_, rfl⟩
            obtain ⟨nc, hnc⟩ : ∃ n, n = x.f2.length := ⟨_, rfl⟩
            rw [← hna] at hv1
            rw [← hnb] at hv2
            rw [← hnc] at hv3
            rw [← hna, ← hnb, ← hnc]
            clear hna hnb hnc
            have HBb : Hid (Below wr.heap.size wr (w2.alloc (.cells #[.int .i64 x.f0.f0, .slice Aa na ca, .slice Ab nb cb, .slice Ac nc cc] 40))) := Lib.hid (hb.out.alloc hb.out.size _)
            have HV1 := Lib.hid (Kd.R_alloc hv1.out (.cells #[.int .i64 x.f0.f0, .slice Aa na ca, .slice Ab nb cb, .slice Ac nc cc] 40))
            have HV2 := Lib.hid (Kd.R_alloc hv2.out (.cells #[.int .i64 x.f0.f0, .slice Aa na ca, .slice Ab nb cb, .slice Ac nc cc] 40))
            have HV3 := Lib.hid (Kd.R_alloc hv3.out (.cells #[.int .i64 x.f0.f0, .slice Aa na ca, .slice Ab nb cb, .slice Ac nc cc] 40))
            have HX9 : Hid ((w2.alloc (.cells #[.int .i64 x.f0.f0, .slice Aa na ca, .slice Ab nb cb, .slice Ac nc cc] 40)).heap[w2.heap.size]? = some (.cells #[.int .i64 x.f0.f0, .slice Aa na ca, .slice Ab nb cb, .slice Ac nc cc] 40 (0, 0))) := Lib.hid (blk_new _ _)
            generalize w2.heap.size = b9 at *
            generalize w2.alloc (.cells #[.int .i64 x.f0.f0, .slice Aa na ca, .slice Ab nb cb, .slice Ac nc cc] 40) = W9 at *
            have HRb := Lib.hid (Kd.R_below HRi.out HBb.out)
            have HLU := Lib.hid (Kd.R_lt HRi.out)
            have HXb := Lib.hid (blk_below HXi.out HBb.out)
            have f2 : W9.cell? ⟨b2, 2, none⟩ = some (.slice Aw lw cw) := blk_at HXb.out 2 rfl
            have p0 : W9.cell? ⟨b9, 0, none⟩ = some (.int .i64 x.f0.f0) := blk_at HX9.out 0 rfl
            have p1 : W9.cell? ⟨b9, 1, none⟩ = some (.slice Aa na ca) := blk_at HX9.out 1 rfl
            have p2 : W9.cell? ⟨b9, 2, none⟩ = some (.slice Ab nb cb) := blk_at HX9.out 2 rfl
            have p3 : W9.cell? ⟨b9, 3, none⟩ = some (.slice Ac nc cc) := blk_at HX9.out 3 rfl
            clear hv1 hv2 hv3 hb HX9 HPT
            go_wp2_with (at_builtin; refine Kd.R_append k40 (w0 := wr) b3 (by rfl) (.tmp 106) (.tmp 108) 42 40 (.agg #[.int .i64 0, .slice none 0 0, .slice none 0 0, .slice none 0 0]) 80 rfl Try.underlying42 info40 rfl (show 0 < 4 by decide) (by decide) (.slice Aw lw cw) (byTask R.ts R.ps k ++ forT R.ts R.ps (k : Int) j) x _ (fun _ => True) (fun k_ => True ∧ some k_ ≠ (Value.slice Aw lw cw).ownBlock) rfl rfl ?hp (fun _ hk => hk) (fun _ _ => trivial) HRb.out ?hB ?hS ?hl ?_
                         case hp => exact k40_mkM _ _ _ x (Kd.R_lower (Kd.R_new' HV1.out HLU.out) Hsz.out) (Kd.R_lower (Kd.R_new' HV2.out HLU.out) Hsz.out) (Kd.R_lower (Kd.R_new' HV3.out HLU.out) Hsz.out)
                         case hB => exact HBb.out.mono Hsz.out
                         case hS => exact Nat.le_trans Hsz.out HBb.out.size
                         case hl => rw [← HLW.out]; have := HLB.out; omega
                         intro vv w4 hO hB hg hat
                         rw [← HF2.out] at hO
                         obtain ⟨Ay, cy, hvv⟩ := Kd.R_slice hO
                         subst hvv
                         have HO4 := Lib.hid hO
                         have HB4 := Lib.hid hB
                         have HX4 := Lib.hid ((hB.block b2 HB2lt.out).trans HXi.out)
                         have y2 : w4.cell? ⟨b2, 2, none⟩ = some (.slice Aw lw cw) := blk_at HX4.out 2 rfl
                         have z2 : w4.frozen? ⟨b2, 2, none⟩ = false := blk_frozen HX4.out 2
                         obtain ⟨ly, hly⟩ : ∃ ly, ly = (byTask R.ts R.ps k ++ forT R.ts R.ps (k : Int) (j + 1)).length := ⟨_, rfl⟩
                         rw [← hly] at HO4 ⊢
                         have HLY := Lib.hid hly
                         clear hO hB hg hat hly)
            go_roundw
            case rel =>
              exact ⟨j + 1, by omega, by go_num, Ay, cy, ly, HLY, Lib.hid (blk_put HX4.out 2 _ rfl), Lib.hid (R_low HO4.out (p := ⟨b2, 2, none⟩) HB2lt.out _), Lib.hid (grown_set (grown_below HGi.out (by rw [← HB3.out]; exact HB4.out)) 2 _)⟩
            case measure => simp [intOf]; omega
        · obtain rfl : j = m := by omega
          have e1 : byTask R.ts R.ps (k + 1) = (byTask R.ts R.ps k ++ forT R.ts R.ps (k : Int) j) := by rw [HLM.out]; rfl
          have HE1 := Lib.hid e1
          clear e1
          go_wp2_with (fail)
          go_roundw
          case rel => exact ⟨k + 1, by omega, by go_num, Aw, cw, lw, by rw [HE1.out]; exact HLW, HXi, by rw [HE1.out]; exact HRi, HGi⟩
          case measure => simp [intOf]; omega
    · obtain rfl : k = t := by omega
      have HX0r := Lib.hid ((HG.out.block w.heap.size (blk_lt HX70.out) (fun e => HB02.out (by injection e))).trans HX70.out)
      go_upto_region 20 with (fail)
      have HXd : Hid (wr.drew.heap[w.heap.size]? = some (.cells #[.int .i64 0, .int .u32 0, .slice none 0 0] 44 (0, 0))) := HX0r
      have HUL : Hid (Upd (· = tg + 4) o2 W7 o2 wr.drew) := Lib.hid ((Upd.grown HG.out (fun k_ hk_ => by injection hk_ with hk_; rw [← hk_]; exact HO2b.out)).then Upd.drew)
      have HSC : Hid (StC k40 o2 wr.drew Av ln (byTask R.ts R.ps R.n)) := Lib.hid (by
        rw [← HT.out]
        have hbz : b3 = W7.heap.size := HB3.out
        rw [hbz] at HRo
        exact (StC.newly HRo.out HO2n.out).upd (S := fun _ => False) (fun h => h) Upd.drew)
      have hcv : ln ≤ cv := (Kd.R_reads' HRo.out).2.1
      have HXb2 : Hid (wr.drew.heap[b2]? = some (.cells #[.int .i64 id, .int .u32 sum, .slice Av ln cv] 44 (0, 0))) := HXo
      clear a0
      refine start_ (n := 3) (S := (fun w' => w'.cell? ⟨b2, 0, none⟩ = some (.int .i64 id) ∧ w'.cell? ⟨b2, 1, none⟩ = some (.int .u32 sum) ∧ w'.cell? ⟨b2, 2, none⟩ = some (.slice Av ln cv))) (ds := [2]) #[false, false, false] (by kernel_rfl) rfl rfl ⟨(show wr.drew.cell? _ = _ from blk_at HXo.out 0 rfl), (show wr.drew.cell? _ = _ from blk_at HXo.out 1 rfl), (show wr.drew.cell? _ = _ from blk_at HXo.out 2 rfl)⟩ (fun hHeld => ?_)
      generalize wr.drew = W8 at *
      have y0 : W8.cell? ⟨w.heap.size, 0, none⟩ = some (.int .i64 0) := blk_at HXd.out 0 rfl
      have y1 : W8.cell? ⟨w.heap.size, 1, none⟩ = some (.int .u32 0) := blk_at HXd.out 1 rfl
      have y2 : W8.cell? ⟨w.heap.size, 2, none⟩ = some (.slice none 0 0) := blk_at HXd.out 2 rfl
      have z0 : W8.frozen? ⟨w.heap.size, 0, none⟩ = false := blk_frozen HXd.out 0
      have z1 : W8.frozen? ⟨w.heap.size, 1, none⟩ = false := blk_frozen HXd.out 1
      have z2 : W8.frozen? ⟨w.heap.size, 2, none⟩ = false := blk_frozen HXd.out 2
      refine take_ (i := 0) (N := some 111) (v := ?_) (a' := ?_) #[true, false, false] rfl rfl (by kernel_rfl) (fun _ _ _ h => h) (Or.inl ⟨by rfl, ?_⟩) hHeld ?_ ?_
      rotate_left
      · rintro w' ⟨s0, s1, s2⟩
        go_simp
        with_reducible rfl
      rotate_left
      · simp only [Act.put, List.setIfInBounds_toArray, List.set_cons_zero, List.set_cons_succ]
        rfl
      refine pure_ (i := 1) (N := some 2) (v := ?_) (a' := ?_) #[true, true, false] rfl rfl (by kernel_rfl) (fun _ _ _ h => h) (Or.inl ⟨by rfl, ?_⟩) ?_ ?_
      rotate_left
      · intro w'
        go_simp
        with_reducible rfl
      rotate_left
      · simp only [Act.put, List.setIfInBounds_toArray, List.set_cons_zero, List.set_cons_succ]
        rfl
      refine last_ (i := 2) (N := none) #[true, true, true] rfl rfl (by kernel_rfl) (by decide) (fun K hK => ?_)
      refine skip_ (w1 := (((W8.setCell ⟨w.heap.size, 0, none⟩ (.int .i64 id)).setCell ⟨w.heap.size, 1, none⟩ (.int .u32 sum)).setCell ⟨w.heap.size, 2, none⟩ (.slice Av ln cv))) (by rfl) rfl (by go_simp) ?_
      refine hK.out _ _ ?_
      clear hK K
      refine done_ (by kernel_rfl) ?_
      clear y0 y1 y2 z0 z1 z2 hHeld
      go_wp2_with (fail)
      refine bodyPost_ret (results_list (rs := [.tmp 2, .cell 3 44]) (vs := [.int .i64 2, .agg #[.int .i64 id, .int .u32 sum, .slice Av ln cv]]) rfl (by simp) (.tmp (.cell w.heap.size 44 #[.int .i64 id, .int .u32 sum, .slice Av ln cv] (0, 0) _ rfl (blk_put (blk_put (blk_put HXd.out 0 (.int .i64 id) rfl) 1 (.int .u32 sum) rfl) 2 (.slice Av ln cv) rfl) Try.underlying44 rfl (by kernel_rfl) .nil))) rfl ?_
      have hb : ∀ (W : World) (j : Nat) (u : Value), Upd (· = tg + 4) o2 W o2 (W.setCell ⟨w.heap.size, j, none⟩ u) := fun W j u => Upd.set (p := ⟨w.heap.size, j, none⟩) HO20.out _
      have hb3 := ((hb W8 0 (.int .i64 id)).then (hb _ 1 (.int .u32 sum))).then (hb _ 2 (.slice Av ln cv))
      have hln : ln = (byTask R.ts R.ps R.n).length := by rw [HLN.out, HT.out]
      refine ⟨o2, _, _, _, _, .slice Av ln cv, by rw [HSM.out], ⟨Av, cv, by rw [hln], by rw [← hln]; exact hcv, by rw [← hln]; exact HSC.out.upd (S := (· = tg + 4)) (by omega) hb3⟩, HR7.out.upd (T := (· = tg + 4)) (by omega) (fun t_ h1 h2 h3 => by omega) (HUL.out.then hb3), HU7.out.then ((HUL.out.then hb3).mono (fun t_ ht => by unfold Tg; omega))⟩
/-- What Pick answers. -/
def RefPick (own : Nat → Nat) (w : World) (g tg : Nat) (R : RA) (e : Ending) (w' : World) : Prop :=
  if R.now < 0 ∨ R.pk = R.ps.length then e = .returned (.tuple #[.int .i64 0, .agg #[.int .i64 0, .int .u32 0, .slice none 0 0]]) ∧ RefTo own w g tg R w'
  else if R.pk + 1 < R.n then e = .returned (.tuple #[.int .i64 1, .agg #[.int .i64 0, .int .u32 0, .slice none 0 0]]) ∧ RefTo own w g tg ⟨R.n, R.first, R.sum, R.sts, R.ps, R.ts, R.pk + 1⟩ w'
  else ∃ own' A' c' rows' pps' v, e = .returned (.tuple #[.int .i64 2, .agg #[.int .i64 (R.first + R.now), .int .u32 R.sum, v]]) ∧ ShotIs own' w' v (byTask R.ts R.ps R.n) ∧ RefAt own' w' g tg ⟨R.n, R.first, R.sum, R.sts.set R.now.toNat 2, R.ps, R.ts, R.pk + 1⟩ A' c' rows' pps' ∧ Upd (Tg tg) own w own' w'
theorem pick37 (own : Nat → Nat) (w : World) (g tg : Nat) (R : RA) (A : Option Addr) (c : Nat) (rows : List SC) (pps : List PP) (h : RefAt own w g tg R A c rows pps) (hpp : ∀ x ∈ R.ps, partsP x ≤ 100000) : Calls Try.prog 37 #[.pointer (some ⟨g, 0, none⟩)] w fun e w' => RefPick own w g tg R e w' := by
  rcases R.now_cases with hn | ⟨i, hn, hi, hu⟩
  · refine (pick37_no own w g tg R A c rows pps h hn).mono (fun e w' he => ?_)
    unfold RefPick
    rw [if_pos (.inl (by omega))]
    exact ⟨he.1, .same h (Upd.of_below' he.2.out (fun _ _ => rfl))⟩
  · by_cases hall : R.pk = R.ps.length
    · refine (pick37_all own w g tg R A c rows pps h i hn hi hu hall).mono (fun e w' he => ?_)
      unfold RefPick
      rw [if_pos (.inr hall)]
      exact ⟨he.1, .same h (Upd.of_below' he.2.out (fun _ _ => rfl))⟩
    · by_cases hl : R.pk + 1 < R.n
      · refine (pick37_one own w g tg R A c rows pps h i hn hi hu hall hl).mono (fun e w' he => ?_)
        unfold RefPick
        rw [if_neg (by omega), if_pos hl]
        exact he
      · refine (pick37_two own w g tg R A c rows pps h i hn hi hu hall hl hpp).mono (fun e w' he => ?_)
        unfold RefPick
        rw [if_neg (by omega), if_neg hl, hn, Int.toNat_natCast]
        exact he
end Go.Proofs.Ytcbaiplamaopeaa.PPostShots
