/- Clone of parts, Pick. -/
import Derived.Test.YtcbaiplamaopeaaPH
namespace Go.Proofs.Ytcbaiplamaopeaa.PPostShots
open Go.RowKit Go.Conc Go.Proofs.YtcbaiplamaopeaaW.PrintWords Go.Proofs.YtcbaiplamaopeaaW.PrintLast Go.Proofs.Ytcbaiplamaopeaa.PPost
set_option linter.unusedVariables false
set_option linter.unusedSimpArgs false

theorem info44 : (Try.prog.info? 44).map (fun i => (i.zero, i.size, i.bytes)) = some (some (.agg #[(.int .i64 0), (.int .u32 0), (.slice none 0 0)]), 3, 40) := by kernel_rfl
theorem e40pk {own : Nat → Nat} {w : World} : ∀ q, q ∈ 40 :: (pk k40 own w).E → q ≠ 44 := by
  intro q hq
  simp [pk] at hq
  subst hq
  decide
theorem Upd.setNew {S : Nat → Prop} {own own' : Nat → Nat} {w w' : World} {p : Addr} (h : Upd S own w own' w') (hp : w.heap.size ≤ p.block) (u : Value) : Upd S own w own' (w'.setCell p u) :=
  ⟨h.os, h.tape, h.output, by simpa [World.setCell] using h.size, h.same, fun k hk ho => (set_far _ _ _ (by omega)).trans (h.block k hk ho)⟩
section
variable {own : Nat → Nat} {w : World} {g tg : Nat} {S : PS} {bm c bw bp nm s r : Nat} {pps : List PP} {pbuf : List (Nat × PP)} (h : PostAt own w g tg S bm c bw bp nm s r pps pbuf) (h0 : tg ≠ 0)
include h
theorem PostAt.wx {b : Nat} (hb : own b = tg + 1) : b ≠ bw := fun e => by subst e; have := h.ow; omega
theorem PostAt.px {b : Nat} (hb : own b = tg + 1) : b ≠ bp := fun e => by subst e; have := h.op; omega
theorem PostAt.rowC : (pk k40 own w).C w (some ⟨bp, 0, none⟩) S.n pps := by
  refine ⟨h.lpp, by have := h.ok.n2; omega, fun hn => ⟨⟨bp, 0, none⟩, rfl, fun j p hj => ?_⟩⟩
  obtain ⟨hlt, he⟩ := List.getElem?_eq_some_iff.1 hj
  have hm : p ∈ pps := by rw [← he]; exact List.getElem_mem _
  refine ⟨p.2, h.l4 p hm, ⟨rfl, h.s1 p hm⟩, fun i u hi => ?_⟩
  have h4 : i < 4 := by have := (List.getElem?_eq_some_iff.1 hi).1; rw [h.l4 p hm] at this; exact this
  have := cellsP_get pps j i p h.l4 hj h4
  have hc : w.cell? ⟨bp, j * 4 + i, none⟩ = some u := blk_at h.hp _ (by simpa [hi] using this)
  have e : (⟨bp, 0, none⟩ : Addr).add (j * 4 + i) = ⟨bp, j * 4 + i, none⟩ := by
    by_cases hz : j * 4 + i = 0
    · rw [hz]; rfl
    · simp [Addr.add]; omega
  exact (congrArg w.cell? e).trans hc
end
set_option maxRecDepth 100000 in
set_option maxHeartbeats 4000000 in
theorem clone27 (own : Nat → Nat) (w0 : World) (ps : List PP) (ad : Addr) (n c : Nat) (w : World) (hC : (pk k40 own w0).C w (some ad) n ps) (hl : n ≤ 12) :
    Calls Try.prog 27 #[.slice (some ad) n c] w fun e w' => ∃ v, e = .returned v ∧ Hid ((pk k40 own w0).R 40 w' w.heap.size (fun _ => True) v ps) ∧ Hid (Below w.heap.size w w') := by
  have HC := Lib.hid hC
  have Hl := Lib.hid hl
  have hnil : (binOp .eql 42 (.slice (some ad) n c) (.slice none 0 0)).run Try.prog w = .ok (.bool false) w := Lib.run_eql_slice_nil (h := Try.underlying42) ..
  clear hC hl
  go_enter Try.func27, Try.ntmps27
  go_wp2_with (at_builtin; refine Kd.R_append_rows (pk k40 own w0) (Rr := (pk k40 own w0).K w0) (w0 := w) w.heap.size rfl (.tmp 5) (.tmp 6) 42 40 (.agg #[.int .i64 0, .slice none 0 0, .slice none 0 0, .slice none 0 0]) 80 rfl Try.underlying42 info40 rfl (show 0 < 4 by decide) (by decide) (.slice (some ⟨w.heap.size, 0, none⟩) 0 0) [] ps (some ad) n c (fun _ => True) (fun _ => False) rfl rfl (R_lit0 (pk k40 own w0) 40 w w.heap.size _ (Nat.le_refl _) trivial) ?hR (fun _ _ h => h) (fun _ h => h.elim) (fun _ _ => trivial) ((Below.refl _ _).alloc (Nat.le_refl _) _) ?hS ?hl ?_
               case hR => exact Kd.C_alloc HC.out _
               case hS => simp
               case hl => have := Hl.out; simp only [List.length_nil]; omega
               intro v1 w2 HO2 HB2 hg hat
               rw [List.nil_append] at HO2
               have HO3 := Lib.hid HO2
               have HB3 := Lib.hid HB2
               clear HO2 HB2 hg hat)
  go_ret
  exact ⟨_, rfl, HO3, HB3⟩
def PS.took (S : PS) (t : Nat) (x : S40) : PS := ((S.setB S.buf.tail).setW t 2).setP t x
def PS.all2 (S : PS) : Bool := S.wh.all (· == 2)
/-- The shot is made. -/
def PS.shot (S : PS) : PS := ((S.setF S.under 2).setU 0).emptied
/-- A shot in memory. -/
def ShotIs (own : Nat → Nat) (w : World) (v : Value) (ps : List S40) : Prop := ∃ A cc, v = .slice A ps.length cc ∧ ps.length ≤ cc ∧ StC k40 own w A ps.length ps
def PickAns (own : Nat → Nat) (w : World) (g tg nm : Nat) (S : PS) (e : Ending) (w' : World) : Prop :=
  match S.buf with
  | [] => e = .returned (.tuple #[.int .i64 0, .agg #[.int .i64 0, .int .u32 0, .slice none 0 0]]) ∧ PostTo own w g tg nm S w'
  | (t, x) :: _ =>
    if (S.took t x).all2 = true then
      ∃ own' bm c bw bp nm' s r pps pbuf v, e = .returned (.tuple #[.int .i64 2, .agg #[.int .i64 S.under, .int .u32 S.sum, v]]) ∧ ShotIs own' w' v (S.took t x).ps ∧ PostAt own' w' g tg (S.took t x).shot bm c bw bp nm' s r pps pbuf ∧ Upd (· = tg) own w own' w' ∧ nm' ≤ nm + 1
    else e = .returned (.tuple #[.int .i64 1, .agg #[.int .i64 0, .int .u32 0, .slice none 0 0]]) ∧ PostTo own w g tg nm (S.took t x) w'
set_option maxRecDepth 100000 in
set_option maxHeartbeats 4000000 in
theorem pick12_none (own : Nat → Nat) (w : World) (g tg : Nat) (S : PS) (bm c bw bp nm s r : Nat) (pps : List PP) (pbuf : List (Nat × PP)) (h : PostAt own w g tg S bm c bw bp nm s r pps pbuf) (h0 : tg ≠ 0) (hb : pbuf = []) :
    Calls Try.prog 12 #[.pointer (some ⟨g, 0, none⟩)] w fun e w' => e = .returned (.tuple #[.int .i64 0, .agg #[.int .i64 0, .int .u32 0, .slice none 0 0]]) ∧ Hid (Below w.heap.size w w') := by
  subst hb
  have q4 : (w.alloc (.cells #[.int .i64 0, .int .u32 0, .slice none 0 0] 44)).cell? ⟨g, 4, none⟩ = some (.chan (some c)) := blk_at (blk_alloc h.hb _) 4 rfl
  have HC := Lib.hid (blk_alloc h.hc (.cells #[.int .i64 0, .int .u32 0, .slice none 0 0] 44))
  have HD : Hid ((w.alloc (.cells #[.int .i64 0, .int .u32 0, .slice none 0 0] 44)).heap[w.heap.size]? = some (.cells #[.int .i64 0, .int .u32 0, .slice none 0 0] 44 (0, 0))) := Lib.hid (blk_new _ _)
  have HB : Hid (Below w.heap.size w (w.alloc (.cells #[.int .i64 0, .int .u32 0, .slice none 0 0] 44))) := Lib.hid ((Below.refl _ _).alloc (Nat.le_refl _) _)
  have Hb3 : Hid (w.heap.size ≤ w.heap.size) := Lib.hid (Nat.le_refl _)
  clear h
  go_enter Try.func12, Try.ntmps12
  go_upto_region 2 with (fail)
  clear q4
  generalize w.alloc (.cells #[.int .i64 0, .int .u32 0, .slice none 0 0] 44) = w1 at *
  obtain ⟨b3, hb3⟩ : ∃ b3, b3 = w.heap.size := ⟨_, rfl⟩
  have Hb := Lib.hid hb3
  rw [← hb3] at HD ⊢
  clear hb3
  refine sem_first ?_
  refine sem_sel_none (z := .agg #[.int .i64 0, .int .i64 0, .slice none 0 0, .slice none 0 0, .slice none 0 0]) (c := c) (cap := S.n) (s := s) (r := r) (tm := false) rfl (by rfl) ?_ HC.out ?_
  · simp [go_sem, execOp, rcase, Act.eval, Try.zeroValue78]
  refine sem_norm (a' := ?_) ?_ ?_
  rotate_left
  · simp only [Act.put, List.setIfInBounds_toArray, List.set_cons_zero, List.set_cons_succ]
    rfl
  refine sem_rest ?_
  have y0 : w1.cell? ⟨b3, 0, none⟩ = some (.int .i64 0) := blk_at HD.out 0 rfl
  have z0 : w1.frozen? ⟨b3, 0, none⟩ = false := blk_frozen HD.out 0
  have y1 : w1.cell? ⟨b3, 1, none⟩ = some (.int .u32 0) := blk_at HD.out 1 rfl
  have z1 : w1.frozen? ⟨b3, 1, none⟩ = false := blk_frozen HD.out 1
  have y2 : w1.cell? ⟨b3, 2, none⟩ = some (.slice none 0 0) := blk_at HD.out 2 rfl
  have z2 : w1.frozen? ⟨b3, 2, none⟩ = false := blk_frozen HD.out 2
  go_wp2_with (fail)
  refine bodyPost_ret (results_list (rs := [.tmp 2, .cell 3 44]) (vs := [.int .i64 0, .agg #[.int .i64 0, .int .u32 0, .slice none 0 0]]) rfl (by simp) (.tmp (.cell b3 44 #[.int .i64 0, .int .u32 0, .slice none 0 0] (0, 0) _ rfl (blk_put (blk_put (blk_put HD.out 0 (.int .i64 0) rfl) 1 (.int .u32 0) rfl) 2 (.slice none 0 0) rfl) Try.underlying44 rfl (by kernel_rfl) .nil))) rfl ?_
  refine ⟨rfl, Lib.hid ?_⟩
  rw [Hb.out] at *
  iterate 3 refine Below.setCell ?_ (by simp) _
  exact HB.out
theorem all2_of {l : List Int} {n : Nat} (hl : l.length = n) (h : ∀ j, j < n → l.getD j 0 = 2) : l.all (· == 2) = true := by
  rw [List.all_eq_true]
  intro y hy
  obtain ⟨j, hj, rfl⟩ := List.mem_iff_getElem.1 hy
  have := h j (by omega)
  rw [List.getD_eq_getElem?_getD, List.getElem?_eq_getElem hj, Option.getD_some] at this
  simp [this]
theorem not_all2 {l : List Int} {j : Nat} (hj : j < l.length) (h : ¬ l.getD j 0 = 2) : ¬ l.all (· == 2) = true := by
  intro ha
  rw [List.all_eq_true] at ha
  have := ha l[j] (List.getElem_mem hj)
  rw [List.getD_eq_getElem?_getD, List.getElem?_eq_getElem hj, Option.getD_some] at h
  exact h (by simpa using this)
set_option maxRecDepth 100000 in
set_option maxHeartbeats 16000000 in
theorem pick12_some (own : Nat → Nat) (w : World) (g tg : Nat) (S : PS) (bm c bw bp nm s r : Nat) (pps : List PP) (pbuf : List (Nat × PP)) (h : PostAt own w g tg S bm c bw bp nm s r pps pbuf) (h0 : tg ≠ 0) (hnm : nm < maxLen) (t : Nat) (x : S40) (cs : List Value) (rest : List (Nat × PP)) (hb : pbuf = (t, x, cs) :: rest) :
    Calls Try.prog 12 #[.pointer (some ⟨g, 0, none⟩)] w fun e w' => PickAns own w g tg nm S e w' := by
  subst hb
  obtain ⟨A1, c1, A2, c2, A3, c3, hcs, -⟩ := k40_open (h.s2 _ (by simp : (t, x, cs) ∈ (t, x, cs) :: rest)).now
  simp only [] at hcs
  subst hcs
  obtain ⟨n, hn⟩ : ∃ n, n = S.n := ⟨_, rfl⟩
  obtain ⟨own1, hown1⟩ : ∃ own1 : Nat → Nat, own1 = fresh own w (tg + 1) := ⟨_, rfl⟩
  have hbuf : S.buf = (t, x) :: rest.map (fun e => (e.1, e.2.1)) := by rw [← h.e2]; rfl
  have ht : t < S.n := by
    have := h.ok.bw (t, x) (by rw [hbuf]; simp)
    rw [← h.ok.lw]
    exact (List.getElem?_eq_some_iff.1 this).1
  have hne : ∀ e ∈ rest, e.1 ≠ t := by
    have := h.nodup
    rw [List.map_cons, List.nodup_cons] at this
    exact fun e he heq => this.1 (List.mem_map.2 ⟨e, he, heq⟩)
  have Hbuf := Lib.hid hbuf
  have Ht := Lib.hid ht
  have H0 := Lib.hid h0
  have HNM := Lib.hid hnm
  have Hn := Lib.hid hn
  have hn12 : n ≤ 12 := by rw [hn]; exact h.ok.n2
  have htn : t < n := by rw [hn]; exact ht
  have HUa : Hid (Upd (· = tg) own w own1 (w.alloc (.cells #[.int .i64 0, .int .u32 0, .slice none 0 0] 44))) := Lib.hid (by rw [hown1]; exact Upd.alloc _ _)
  have HPa : Hid (PostAt own1 (w.alloc (.cells #[.int .i64 0, .int .u32 0, .slice none 0 0] 44)) g tg S bm c bw bp nm s r pps ((t, x, [.int .i64 x.f0.f0, .slice A1 x.f0.f1.length c1, .slice A2 x.f1.length c2, .slice A3 x.f2.length c3]) :: rest)) := Lib.hid (by rw [hown1]; exact h.upd (T := fun _ => False) (fun e => e) (fun e => e) (Upd.alloc _ _))
  have HDa : Hid ((w.alloc (.cells #[.int .i64 0, .int .u32 0, .slice none 0 0] 44)).heap[w.heap.size]? = some (.cells #[.int .i64 0, .int .u32 0, .slice none 0 0] 44 (0, 0))) := Lib.hid (blk_new _ _)
  have HTN : Hid (∀ k, w.heap.size ≤ k → own1 k = tg + 1) := Lib.hid (fun k hk => by rw [hown1]; exact fresh_new hk)
  have Hset : Hid (∀ e ∈ (S.setB (rest.map fun e => (e.1, e.2.1))).buf, ((S.setB (rest.map fun e => (e.1, e.2.1))).wh.set t 2)[e.1]? = some 1) := Lib.hid (fun e he => by
    obtain ⟨q, hq, rfl⟩ := List.mem_map.1 he
    show (S.wh.set t 2)[q.1]? = some 1
    rw [List.getElem?_set_ne (hne q hq).symm]
    exact h.waits q (by simp [hq]))
  have hsz : Hid ((w.alloc (.cells #[.int .i64 0, .int .u32 0, .slice none 0 0] 44)).heap.size = w.heap.size + 1) := Lib.hid (World.size_alloc _ _)
  have hlw := h.ok.lw
  have q4 : (w.alloc (.cells #[.int .i64 0, .int .u32 0, .slice none 0 0] 44)).cell? ⟨g, 4, none⟩ = some (.chan (some c)) := blk_at HPa.out.hb 4 rfl
  have Hlw := Lib.hid hlw
  clear h h0 hnm hn hbuf ht hne hown1 hlw
  go_enter Try.func12, Try.ntmps12
  go_upto_region 2 with (fail)
  clear q4
  generalize w.alloc (.cells #[.int .i64 0, .int .u32 0, .slice none 0 0] 44) = w1 at *
  obtain ⟨b3, hb3⟩ : ∃ b3, b3 = w.heap.size := ⟨_, rfl⟩
  have Hb3 := Lib.hid hb3
  rw [← hb3] at HDa hsz ⊢
  have HTD : Hid (own1 b3 = tg + 1) := Lib.hid (HTN.out _ (by omega))
  clear hb3
  refine sem_first ?_
  refine sem_sel_recv (z := .agg #[.int .i64 0, .int .i64 0, .slice none 0 0, .slice none 0 0, .slice none 0 0]) (c := c) (cap := S.n) (buf := bufP ((t, x, [.int .i64 x.f0.f0, .slice A1 x.f0.f1.length c1, .slice A2 x.f1.length c2, .slice A3 x.f2.length c3]) :: rest)) (s := s) (r := r) (tm := false) (closed := false) rfl (by rfl) ?_ HPa.out.hc (by rw [bufP_size]; simp) ?_
  · simp [go_sem, execOp, rcase, Act.eval, Try.zeroValue78]
  rw [bufP_head, bufP_tail]
  refine sem_norm (a' := ?_) ?_ ?_
  rotate_left
  · simp only [Act.put, List.setIfInBounds_toArray, List.set_cons_zero, List.set_cons_succ]
    rfl
  refine sem_rest ?_
  have HP2 := Lib.hid (HPa.out.chan H0.out rest s (r + 1) (fun e he => HPa.out.s2 e (by simp [he])) (List.nodup_cons.1 HPa.out.nodup).2 (fun e he => HPa.out.waits e (by simp [he])))
  have hu2 : Upd (· = tg) own1 w1 own1 (w1.setChan c S.n (bufP rest) false s (r + 1) false) := Upd.chan HPa.out.oc ..
  have HU2 := Lib.hid (HUa.out.then hu2)
  have HS2 : Hid (St k40 own1 (w1.setChan c S.n (bufP rest) false s (r + 1) false) x [.int .i64 x.f0.f0, .slice A1 x.f0.f1.length c1, .slice A2 x.f1.length c2, .slice A3 x.f2.length c3]) := Lib.hid ((HPa.out.s2 (t, x, [.int .i64 x.f0.f0, .slice A1 x.f0.f1.length c1, .slice A2 x.f1.length c2, .slice A3 x.f2.length c3]) (by simp)).upd (S := (· = tg)) (fun e => H0.out e.symm) hu2)
  have HD2 := Lib.hid ((chan_far w1 (blk_chan_ne HDa.out HPa.out.hc) S.n (bufP rest) false s (r + 1) false).trans HDa.out)
  have hsz2 : Hid ((w1.setChan c S.n (bufP rest) false s (r + 1) false).heap.size = b3 + 1) := Lib.hid (by rw [← hsz.out]; simp [World.setChan])
  clear hu2 HPa HUa HDa hsz
  generalize w1.setChan c S.n (bufP rest) false s (r + 1) false = w2 at *
  go_upto_region 5 with (fail)
  have HX3 := Lib.hid (blk_new w2 (.cells #[.int .i64 (t : Nat), .int .i64 x.f0.f0, .slice A1 x.f0.f1.length c1, .slice A2 x.f1.length c2, .slice A3 x.f2.length c3] 78))
  have hu3 : Upd (fun _ => False) own1 w2 own1 (w2.alloc (.cells #[.int .i64 (t : Nat), .int .i64 x.f0.f0, .slice A1 x.f0.f1.length c1, .slice A2 x.f1.length c2, .slice A3 x.f2.length c3] 78)) := Upd.box _
  have HP3 := Lib.hid (HP2.out.upd (T := fun _ => False) (fun e => e) (fun e => e) hu3)
  have HU3 := Lib.hid (HU2.out.then (hu3.mono (fun _ h => h.elim)))
  have HS := Lib.hid (HS2.out.upd (S := fun _ => False) (fun e => e) hu3)
  have HD3 := Lib.hid (blk_alloc HD2.out (.cells #[.int .i64 (t : Nat), .int .i64 x.f0.f0, .slice A1 x.f0.f1.length c1, .slice A2 x.f1.length c2, .slice A3 x.f2.length c3] 78))
  have HTX : Hid (own1 w2.heap.size = tg + 1) := Lib.hid (HTN.out _ (by rw [hsz2.out, Hb3.out]; omega))
  clear hu3 HP2 HU2 HS2 HD2
  generalize w2.alloc (.cells #[.int .i64 (t : Nat), .int .i64 x.f0.f0, .slice A1 x.f0.f1.length c1, .slice A2 x.f1.length c2, .slice A3 x.f2.length c3] 78) = w3 at *
  generalize w2.heap.size = bx at *
  -- where it waits, where it lies
  refine start_ (n := 8) (S := (fun w' => w'.cell? ⟨g, 5, none⟩ = some (.slice (some ⟨bw, 0, none⟩) n n) ∧ w'.cell? ⟨bx, 0, none⟩ = some (.int .i64 (t : Nat)))) (ds := [7]) #[false, false, false, false, false, false, false, false] (by kernel_rfl) rfl rfl ⟨by rw [Hn.out]; exact blk_at HP3.out.hb 5 rfl, blk_at HX3.out 0 rfl⟩ (fun hHeld => ?_)
  have HP4 := Lib.hid HP3.out.drew
  have HU4 := Lib.hid (HU3.out.then (Upd.drew (S := (· = tg)) (own := own1)))
  have HW4 : Hid (Upd (· = tg) own1 w3 own1 w3.drew) := Lib.hid Upd.drew
  have HX4 : Hid (w3.drew.heap[bx]? = some (.cells #[.int .i64 (t : Nat), .int .i64 x.f0.f0, .slice A1 x.f0.f1.length c1, .slice A2 x.f1.length c2, .slice A3 x.f2.length c3] 78 (0, 0))) := HX3
  have HD4 : Hid (w3.drew.heap[b3]? = some (.cells #[.int .i64 0, .int .u32 0, .slice none 0 0] 44 (0, 0))) := HD3
  clear HP3 HU3 HX3 HD3
  generalize w3.drew = W at *
  refine pure_ (i := 0) (N := some 17) (v := ?_) (a' := ?_) #[true, false, false, false, false, false, false, false] rfl rfl (by kernel_rfl) (fun _ _ _ h => h) (Or.inl ⟨by rfl, ?_⟩) ?_ ?_
  rotate_left
  · intro w'
    go_simp
    with_reducible rfl
  rotate_left
  · simp only [Act.put, List.setIfInBounds_toArray, List.set_cons_zero, List.set_cons_succ]
    rfl
  refine pure_ (i := 1) (N := some 18) (v := ?_) (a' := ?_) #[true, true, false, false, false, false, false, false] rfl rfl (by kernel_rfl) (fun _ _ _ h => h) (Or.inl ⟨by rfl, ?_⟩) ?_ ?_
  rotate_left
  · intro w'
    go_simp
    with_reducible rfl
  rotate_left
  · simp only [Act.put, List.setIfInBounds_toArray, List.set_cons_zero, List.set_cons_succ]
    rfl
  refine pure_ (i := 2) (N := some 19) (v := ?_) (a' := ?_) #[true, true, true, false, false, false, false, false] rfl rfl (by kernel_rfl) (fun _ _ _ h => h) (Or.inl ⟨by rfl, ?_⟩) ?_ ?_
  rotate_left
  · intro w'
    go_simp
    with_reducible rfl
  rotate_left
  · simp only [Act.put, List.setIfInBounds_toArray, List.set_cons_zero, List.set_cons_succ]
    rfl
  refine take_ (i := 3) (N := some 20) (v := ?_) (a' := ?_) #[true, true, true, true, false, false, false, false] rfl rfl (by kernel_rfl) (fun _ _ _ h => h) (Or.inl ⟨by rfl, ?_⟩) hHeld ?_ ?_
  rotate_left
  · rintro w' ⟨s0, s1⟩
    go_simp
    with_reducible rfl
  rotate_left
  · simp only [Act.put, List.setIfInBounds_toArray, List.set_cons_zero, List.set_cons_succ]
    rfl
  refine pure_ (i := 4) (N := some 21) (v := ?_) (a' := ?_) #[true, true, true, true, true, false, false, false] rfl rfl (by kernel_rfl) (fun _ _ _ h => h) (Or.inl ⟨by rfl, ?_⟩) ?_ ?_
  rotate_left
  · intro w'
    go_simp
    with_reducible rfl
  rotate_left
  · simp only [Act.put, List.setIfInBounds_toArray, List.set_cons_zero, List.set_cons_succ]
    rfl
  refine take_ (i := 5) (N := some 22) (v := ?_) (a' := ?_) #[true, true, true, true, true, true, false, false] rfl rfl (by kernel_rfl) (fun _ _ _ h => h) (Or.inl ⟨by rfl, ?_⟩) hHeld ?_ ?_
  rotate_left
  · rintro w' ⟨s0, s1⟩
    go_simp
    with_reducible rfl
  rotate_left
  · simp only [Act.put, List.setIfInBounds_toArray, List.set_cons_zero, List.set_cons_succ]
    rfl
  refine pure_ (i := 6) (N := some 23) (v := ?_) (a' := ?_) #[true, true, true, true, true, true, true, false] rfl rfl (by kernel_rfl) (fun _ _ _ h => h) (Or.inl ⟨by rfl, ?_⟩) ?_ ?_
  rotate_left
  · intro w'
    go_simp
    with_reducible rfl
  rotate_left
  · simp only [Act.put, List.setIfInBounds_toArray, List.set_cons_zero, List.set_cons_succ]
    rfl
  refine last_ (i := 7) (N := none) #[true, true, true, true, true, true, true, true] rfl rfl (by kernel_rfl) (by decide) (fun K hK => ?_)
  have y5 := HP4.out.wcell t Ht.out
  have z5 : W.frozen? ⟨bw, t, none⟩ = false := blk_frozen HP4.out.hw t
  refine skip_ (w1 := W.setCell ⟨bw, t, none⟩ (.int .i64 2)) (by rfl) rfl (by go_simp) ?_
  have HX5 := Lib.hid (blk_far HX4.out (p := ⟨bw, t, none⟩) (by have h1 := HP4.out.wx (own := own1) HTX.out; exact h1) (.int .i64 2))
  have HD5 := Lib.hid (blk_far HD4.out (p := ⟨bw, t, none⟩) (by have h1 := HP4.out.wx (own := own1) HTD.out; exact h1) (.int .i64 2))
  have HP5 := Lib.hid (HP4.out.setW H0.out t 2 Hset.out)
  have HU5 := Lib.hid (HU4.out.then (set_own HP4.out.ow t (.int .i64 2)))
  have HW5 := Lib.hid (HW4.out.then (set_own HP4.out.ow t (.int .i64 2)))
  refine hK.out _ _ ?_
  clear hK K y5 z5 HP4 HU4 HX4 HD4
  generalize W.setCell ⟨bw, t, none⟩ (.int .i64 2) = W5 at *
  refine done_ (by kernel_rfl) ?_

  clear hHeld
  go_upto_region 6 with (fail)
  refine start_ (n := 10) (S := (fun w' => w'.cell? ⟨g, 6, none⟩ = some (.slice (some ⟨bp, 0, none⟩) n n) ∧ w'.cell? ⟨bx, 0, none⟩ = some (.int .i64 (t : Nat)) ∧ w'.cell? ⟨bx, 1, none⟩ = some (.int .i64 x.f0.f0) ∧ w'.cell? ⟨bx, 2, none⟩ = some (.slice A1 x.f0.f1.length c1) ∧ w'.cell? ⟨bx, 3, none⟩ = some (.slice A2 x.f1.length c2) ∧ w'.cell? ⟨bx, 4, none⟩ = some (.slice A3 x.f2.length c3))) (ds := [9]) #[false, false, false, false, false, false, false, false, false, false] (by kernel_rfl) rfl rfl ⟨by rw [Hn.out]; exact blk_at HP5.out.hb 6 rfl, blk_at HX5.out 0 rfl, blk_at HX5.out 1 rfl, blk_at HX5.out 2 rfl, blk_at HX5.out 3 rfl, blk_at HX5.out 4 rfl⟩ (fun hHeld => ?_)
  have HP6 := Lib.hid HP5.out.drew
  have HU6 := Lib.hid (HU5.out.then (Upd.drew (S := (· = tg)) (own := own1)))
  have HW6 := Lib.hid (HW5.out.then (Upd.drew (S := (· = tg)) (own := own1)))
  have HD6 : Hid (W5.drew.heap[b3]? = some (.cells #[.int .i64 0, .int .u32 0, .slice none 0 0] 44 (0, 0))) := HD5
  clear HP5 HU5 HX5 HD5
  generalize W5.drew = W at *
  refine pure_ (i := 0) (N := some 24) (v := ?_) (a' := ?_) #[true, false, false, false, false, false, false, false, false, false] rfl rfl (by kernel_rfl) (fun _ _ _ h => h) (Or.inl ⟨by rfl, ?_⟩) ?_ ?_
  rotate_left
  · intro w'
    go_simp
    with_reducible rfl
  rotate_left
  · simp only [Act.put, List.setIfInBounds_toArray, List.set_cons_zero, List.set_cons_succ]
    rfl
  refine pure_ (i := 1) (N := some 25) (v := ?_) (a' := ?_) #[true, true, false, false, false, false, false, false, false, false] rfl rfl (by kernel_rfl) (fun _ _ _ h => h) (Or.inl ⟨by rfl, ?_⟩) ?_ ?_
  rotate_left
  · intro w'
    go_simp
    with_reducible rfl
  rotate_left
  · simp only [Act.put, List.setIfInBounds_toArray, List.set_cons_zero, List.set_cons_succ]
    rfl
  refine pure_ (i := 2) (N := some 26) (v := ?_) (a' := ?_) #[true, true, true, false, false, false, false, false, false, false] rfl rfl (by kernel_rfl) (fun _ _ _ h => h) (Or.inl ⟨by rfl, ?_⟩) ?_ ?_
  rotate_left
  · intro w'
    go_simp
    with_reducible rfl
  rotate_left
  · simp only [Act.put, List.setIfInBounds_toArray, List.set_cons_zero, List.set_cons_succ]
    rfl
  refine take_ (i := 3) (N := some 27) (v := ?_) (a' := ?_) #[true, true, true, true, false, false, false, false, false, false] rfl rfl (by kernel_rfl) (fun _ _ _ h => h) (Or.inl ⟨by rfl, ?_⟩) hHeld ?_ ?_
  rotate_left
  · rintro w' ⟨s0, s1, s2, s3, s4, s5⟩
    go_simp
    with_reducible rfl
  rotate_left
  · simp only [Act.put, List.setIfInBounds_toArray, List.set_cons_zero, List.set_cons_succ]
    rfl
  refine pure_ (i := 4) (N := some 28) (v := ?_) (a' := ?_) #[true, true, true, true, true, false, false, false, false, false] rfl rfl (by kernel_rfl) (fun _ _ _ h => h) (Or.inl ⟨by rfl, ?_⟩) ?_ ?_
  rotate_left
  · intro w'
    go_simp
    with_reducible rfl
  rotate_left
  · simp only [Act.put, List.setIfInBounds_toArray, List.set_cons_zero, List.set_cons_succ]
    rfl
  refine take_ (i := 5) (N := some 29) (v := ?_) (a' := ?_) #[true, true, true, true, true, true, false, false, false, false] rfl rfl (by kernel_rfl) (fun _ _ _ h => h) (Or.inl ⟨by rfl, ?_⟩) hHeld ?_ ?_
  rotate_left
  · rintro w' ⟨s0, s1, s2, s3, s4, s5⟩
    go_simp
    with_reducible rfl
  rotate_left
  · simp only [Act.put, List.setIfInBounds_toArray, List.set_cons_zero, List.set_cons_succ]
    rfl
  refine pure_ (i := 6) (N := some 30) (v := ?_) (a' := ?_) #[true, true, true, true, true, true, true, false, false, false] rfl rfl (by kernel_rfl) (fun _ _ _ h => h) (Or.inl ⟨by rfl, ?_⟩) ?_ ?_
  rotate_left
  · intro w'
    go_simp
    with_reducible rfl
  rotate_left
  · simp only [Act.put, List.setIfInBounds_toArray, List.set_cons_zero, List.set_cons_succ]
    rfl
  refine take_ (i := 7) (N := some 31) (v := ?_) (a' := ?_) #[true, true, true, true, true, true, true, true, false, false] rfl rfl (by kernel_rfl) (fun _ _ _ h => h) (Or.inl ⟨by rfl, ?_⟩) hHeld ?_ ?_
  rotate_left
  · rintro w' ⟨s0, s1, s2, s3, s4, s5⟩
    go_simp
    with_reducible rfl
  rotate_left
  · simp only [Act.put, List.setIfInBounds_toArray, List.set_cons_zero, List.set_cons_succ]
    rfl
  refine pure_ (i := 8) (N := some 32) (v := ?_) (a' := ?_) #[true, true, true, true, true, true, true, true, true, false] rfl rfl (by kernel_rfl) (fun _ _ _ h => h) (Or.inl ⟨by rfl, ?_⟩) ?_ ?_
  rotate_left
  · intro w'
    go_simp
    with_reducible rfl
  rotate_left
  · simp only [Act.put, List.setIfInBounds_toArray, List.set_cons_zero, List.set_cons_succ]
    rfl
  refine last_ (i := 9) (N := none) #[true, true, true, true, true, true, true, true, true, true] rfl rfl (by kernel_rfl) (by decide) (fun K hK => ?_)
  obtain ⟨v0, v1, v2, v3, y0, y1, y2, y3⟩ := HP6.out.pcell t Ht.out
  have z0 : W.frozen? ⟨bp, t * 4, none⟩ = false := blk_frozen HP6.out.hp _
  have z1 : W.frozen? ⟨bp, t * 4 + 1, none⟩ = false := blk_frozen HP6.out.hp _
  have z2 : W.frozen? ⟨bp, t * 4 + 2, none⟩ = false := blk_frozen HP6.out.hp _
  have z3 : W.frozen? ⟨bp, t * 4 + 3, none⟩ = false := blk_frozen HP6.out.hp _
  refine skip_ (w1 := ((((W.setCell ⟨bp, t * 4, none⟩ (.int .i64 x.f0.f0)).setCell ⟨bp, t * 4 + 1, none⟩ (.slice A1 x.f0.f1.length c1)).setCell ⟨bp, t * 4 + 2, none⟩ (.slice A2 x.f1.length c2)).setCell ⟨bp, t * 4 + 3, none⟩ (.slice A3 x.f2.length c3))) (by rfl) rfl (by go_simp) ?_
  have hd := HP6.out.px (own := own1) HTD.out
  have HD7 := Lib.hid (blk_far (blk_far (blk_far (blk_far HD6.out (p := ⟨bp, t * 4, none⟩) hd (.int .i64 x.f0.f0)) (p := ⟨bp, t * 4 + 1, none⟩) hd (.slice A1 x.f0.f1.length c1)) (p := ⟨bp, t * 4 + 2, none⟩) hd (.slice A2 x.f1.length c2)) (p := ⟨bp, t * 4 + 3, none⟩) hd (.slice A3 x.f2.length c3))
  have HP7 := Lib.hid (HP6.out.setP H0.out t Ht.out x _ _ _ _ (HS.out.upd (S := (· = tg)) (fun e => H0.out e.symm) HW6.out))
  have HU7 := Lib.hid (HU6.out.then (HP6.out.setP_upd t (.int .i64 x.f0.f0) (.slice A1 x.f0.f1.length c1) (.slice A2 x.f1.length c2) (.slice A3 x.f2.length c3)))
  refine hK.out _ _ ?_
  clear hK K y0 y1 y2 y3 z0 z1 z2 z3 HP6 HU6 HD6 hd
  generalize ((((W.setCell ⟨bp, t * 4, none⟩ (.int .i64 x.f0.f0)).setCell ⟨bp, t * 4 + 1, none⟩ (.slice A1 x.f0.f1.length c1)).setCell ⟨bp, t * 4 + 2, none⟩ (.slice A2 x.f1.length c2)).setCell ⟨bp, t * 4 + 3, none⟩ (.slice A3 x.f2.length c3)) = w5 at *
  refine done_ (by kernel_rfl) ?_
  clear hHeld
  have HB5 : Hid (S.took t x = ((S.setB (rest.map fun e => (e.1, e.2.1))).setW t 2).setP t x) := Lib.hid (by unfold PS.took; rw [Hbuf.out]; rfl)
  rw [← HB5.out] at HP7
  generalize pps.set t (x, [.int .i64 x.f0.f0, .slice A1 x.f0.f1.length c1, .slice A2 x.f1.length c2, .slice A3 x.f2.length c3]) = pps7 at HP7
  have q5 : w5.cell? ⟨g, 5, none⟩ = some (.slice (some ⟨bw, 0, none⟩) n n) := by rw [Hn.out]; exact blk_at HP7.out.hb 5 rfl
  go_wp2_with (fail)
  go_loopw [38] (fun v38 wr => ∃ k : Nat, k ≤ n ∧ v38 = .int .i64 k ∧ wr = w5 ∧ Hid (∀ j, j < k → (S.took t x).wh.getD j 0 = 2)) (fun v38 _ => n - (intOf v38).toNat)
  case atStart => exact ⟨0, Nat.zero_le _, rfl, (by trivial), Lib.hid (fun j hj => by omega)⟩
  case round =>
    obtain ⟨k, hk, rfl, rfl, Hall⟩ := hrel
    by_cases hlt : k < n
    · have a0 := HP7.out.wcell k (by show k < S.n; rw [← Hn.out]; exact hlt)
      by_cases hw2 : (S.took t x).wh.getD k 0 = 2
      · rw [hw2] at a0
        have Hw2 := Lib.hid hw2
        clear hw2
        go_wp2_with (fail)
        go_roundw
        case rel => exact ⟨k + 1, by omega, by go_num, (by trivial), Lib.hid (fun j hj => by
          by_cases he : j = k
          · rw [he]; exact Hw2.out
          · exact Hall.out j (by omega))⟩
        case measure => simp [intOf]; omega
      · have Hno := Lib.hid hw2
        generalize (S.took t x).wh.getD k 0 = x9 at a0 hw2
        have k2 : (x9 == 2) = false := by simpa using hw2
        have y0 : wr.cell? ⟨b3, 0, none⟩ = some (.int .i64 0) := blk_at HD7.out 0 rfl
        have z0 : wr.frozen? ⟨b3, 0, none⟩ = false := blk_frozen HD7.out 0
        have y1 : wr.cell? ⟨b3, 1, none⟩ = some (.int .u32 0) := blk_at HD7.out 1 rfl
        have z1 : wr.frozen? ⟨b3, 1, none⟩ = false := blk_frozen HD7.out 1
        have y2 : wr.cell? ⟨b3, 2, none⟩ = some (.slice none 0 0) := blk_at HD7.out 2 rfl
        have z2 : wr.frozen? ⟨b3, 2, none⟩ = false := blk_frozen HD7.out 2
        clear hw2
        go_wp2_with (fail)
        refine bodyPost_ret (results_list (rs := [.tmp 2, .cell 3 44]) (vs := [.int .i64 1, .agg #[.int .i64 0, .int .u32 0, .slice none 0 0]]) rfl (by simp) (.tmp (.cell b3 44 #[.int .i64 0, .int .u32 0, .slice none 0 0] (0, 0) _ rfl (blk_put (blk_put (blk_put HD7.out 0 (.int .i64 0) rfl) 1 (.int .u32 0) rfl) 2 (.slice none 0 0) rfl) Try.underlying44 rfl (by kernel_rfl) .nil))) rfl ?_
        have hb3 : w.heap.size ≤ b3 := by rw [Hb3.out]; exact Nat.le_refl _
        unfold PickAns
        rw [Hbuf.out]
        simp only []
        rw [if_neg (by unfold PS.all2; exact not_all2 (by rw [HP7.out.ok.lw]; show k < S.n; rw [← Hn.out]; exact hlt) Hno.out)]
        have hu : ∀ (W : World) (i : Nat) (u : Value), Upd (· = tg + 1) own1 W own1 (W.setCell ⟨b3, i, none⟩ u) := fun W i u => set_own HTD.out i u
        have hP := HP7.out.upd (T := (· = tg + 1)) (fun e => by omega) (fun e => by omega) (((hu wr 0 (.int .i64 0)).then (hu _ 1 (.int .u32 0))).then (hu _ 2 (.slice none 0 0)))
        exact ⟨(by trivial), own1, bm, c, bw, bp, nm, s, r + 1, _, _, hP, ((HU7.out.setNew (p := ⟨b3, 0, none⟩) hb3 _).setNew (p := ⟨b3, 1, none⟩) hb3 _).setNew (p := ⟨b3, 2, none⟩) hb3 _, Nat.le_refl _⟩
    · obtain rfl : k = n := by omega
      have hall : (S.took t x).all2 = true := by unfold PS.all2; exact all2_of (HP7.out.ok.lw.trans Hn.out.symm) Hall.out
      have HALL := Lib.hid hall
      obtain ⟨n, hkn⟩ : ∃ n, n = k := ⟨_, rfl⟩
      subst hkn
      obtain ⟨under, hun⟩ : ∃ under, under = S.under := ⟨_, rfl⟩
      obtain ⟨sum, hsum⟩ : ∃ sum, sum = S.sum := ⟨_, rfl⟩
      have q2 : wr.cell? ⟨g, 2, none⟩ = some (.int .i64 under) := by rw [hun]; exact blk_at HP7.out.hb 2 rfl
      have q0 : wr.cell? ⟨g, 0, none⟩ = some (.int .u32 sum) := by rw [hsum]; exact blk_at HP7.out.hb 0 rfl
      have q6 : wr.cell? ⟨g, 6, none⟩ = some (.slice (some ⟨bp, 0, none⟩) n n) := by rw [Hn.out]; exact blk_at HP7.out.hb 6 rfl
      have Hnp : Hid (pps7.length = n) := Lib.hid (HP7.out.lpp.trans Hn.out.symm)
      have HCL : Hid (∀ W : World, Below wr.heap.size wr W → Calls Try.prog 27 #[.slice (some ⟨bp, 0, none⟩) n n] W fun e w' => ∃ v, e = .returned v ∧ Hid ((pk k40 own1 wr).R 40 w' W.heap.size (fun _ => True) v pps7) ∧ Hid (Below W.heap.size W w')) := Lib.hid (fun W hW => clone27 own1 wr pps7 ⟨bp, 0, none⟩ n n W (Kd.C_below (by have := HP7.out.rowC; rw [show (S.took t x).n = n from Hn.out.symm] at this; exact this) hW) hn12)
      have Hun := Lib.hid hun
      have Hsum := Lib.hid hsum
      have HWF := Lib.hid (wf_of (x := under) (by rw [hun]; exact HP7.out.ok.u1) (by have h1 := HP7.out.ok.u2; have h2 := HP7.out.ok.x2; have h3 : (S.took t x).under = under := hun.symm; omega))
      clear hall hun hsum
      go_upto_region 13 with (fail)
      go_cut [7] (fun v7 wx => ∃ go Av cv, v7 = .pointer (some ⟨go, 0, none⟩) ∧ Hid (wx.heap[go]? = some (.cells #[.int .i64 under, .int .u32 sum, .slice Av n cv] 44 (0, 0))) ∧ Hid ((pk k40 own1 wr).R 40 wx wr.heap.size (fun _ => True) (.slice Av n cv) pps7) ∧ Hid (Below wr.heap.size wr wx) ∧ Hid (wr.heap.size ≤ go))
      case first =>
        refine start_ (n := 16) (S := (fun w' => w'.cell? ⟨g, 2, none⟩ = some (.int .i64 under) ∧ w'.cell? ⟨g, 0, none⟩ = some (.int .u32 sum) ∧ w'.cell? ⟨g, 6, none⟩ = some (.slice (some ⟨bp, 0, none⟩) n n))) (ds := [15]) #[false, false, false, false, false, false, false, false, false, false, false, false, false, false, false, false] (by kernel_rfl) rfl rfl ⟨q2, q0, q6⟩ (fun hHeld => ?_)
        have HB0 : Hid (Below wr.heap.size wr wr.drew) := Lib.hid (Below.refl _ _).drew
        generalize wr.drew = W0 at *
        refine pure_ (i := 0) (N := some 46) (v := ?_) (a' := ?_) #[true, false, false, false, false, false, false, false, false, false, false, false, false, false, false, false] rfl rfl (by kernel_rfl) (fun _ _ _ h => h) (Or.inl ⟨by rfl, ?_⟩) ?_ ?_
        rotate_left
        · intro w'
          go_simp
          with_reducible rfl
        rotate_left
        · simp only [Act.put, List.setIfInBounds_toArray, List.set_cons_zero, List.set_cons_succ]
          rfl
        refine pure_ (i := 1) (N := some 47) (v := ?_) (a' := ?_) #[true, true, false, false, false, false, false, false, false, false, false, false, false, false, false, false] rfl rfl (by kernel_rfl) (fun _ _ _ h => h) (Or.inl ⟨by rfl, ?_⟩) ?_ ?_
        rotate_left
        · intro w'
          go_simp
          with_reducible rfl
        rotate_left
        · simp only [Act.put, List.setIfInBounds_toArray, List.set_cons_zero, List.set_cons_succ]
          rfl
        refine pure_ (i := 2) (N := some 48) (v := ?_) (a' := ?_) #[true, true, true, false, false, false, false, false, false, false, false, false, false, false, false, false] rfl rfl (by kernel_rfl) (fun _ _ _ h => h) (Or.inl ⟨by rfl, ?_⟩) ?_ ?_
        rotate_left
        · intro w'
          go_simp
          with_reducible rfl
        rotate_left
        · simp only [Act.put, List.setIfInBounds_toArray, List.set_cons_zero, List.set_cons_succ]
          rfl
        refine take_ (i := 3) (N := some 49) (v := ?_) (a' := ?_) #[true, true, true, true, false, false, false, false, false, false, false, false, false, false, false, false] rfl rfl (by kernel_rfl) (fun _ _ _ h => h) (Or.inl ⟨by rfl, ?_⟩) hHeld ?_ ?_
        rotate_left
        · rintro w' ⟨s0, s1, s2⟩
          go_simp
          with_reducible rfl
        rotate_left
        · simp only [Act.put, List.setIfInBounds_toArray, List.set_cons_zero, List.set_cons_succ]
          rfl
        refine pure_ (i := 4) (N := some 50) (v := ?_) (a' := ?_) #[true, true, true, true, true, false, false, false, false, false, false, false, false, false, false, false] rfl rfl (by kernel_rfl) (fun _ _ _ h => h) (Or.inl ⟨by rfl, ?_⟩) ?_ ?_
        rotate_left
        · intro w'
          go_simp
          with_reducible rfl
        rotate_left
        · simp only [Act.put, List.setIfInBounds_toArray, List.set_cons_zero, List.set_cons_succ]
          rfl
        refine pure_ (i := 5) (N := some 51) (v := ?_) (a' := ?_) #[true, true, true, true, true, true, false, false, false, false, false, false, false, false, false, false] rfl rfl (by kernel_rfl) (fun _ _ _ h => h) (Or.inl ⟨by rfl, ?_⟩) ?_ ?_
        rotate_left
        · intro w'
          go_simp
          with_reducible rfl
        rotate_left
        · simp only [Act.put, List.setIfInBounds_toArray, List.set_cons_zero, List.set_cons_succ]
          rfl
        refine pure_ (i := 6) (N := some 52) (v := ?_) (a' := ?_) #[true, true, true, true, true, true, true, false, false, false, false, false, false, false, false, false] rfl rfl (by kernel_rfl) (fun _ _ _ h => h) (Or.inl ⟨by rfl, ?_⟩) ?_ ?_
        rotate_left
        · intro w'
          go_simp
          with_reducible rfl
        rotate_left
        · simp only [Act.put, List.setIfInBounds_toArray, List.set_cons_zero, List.set_cons_succ]
          rfl
        refine take_ (i := 7) (N := some 53) (v := ?_) (a' := ?_) #[true, true, true, true, true, true, true, true, false, false, false, false, false, false, false, false] rfl rfl (by kernel_rfl) (fun _ _ _ h => h) (Or.inl ⟨by rfl, ?_⟩) hHeld ?_ ?_
        rotate_left
        · rintro w' ⟨s0, s1, s2⟩
          go_simp
          with_reducible rfl
        rotate_left
        · simp only [Act.put, List.setIfInBounds_toArray, List.set_cons_zero, List.set_cons_succ]
          rfl
        refine pure_ (i := 8) (N := some 54) (v := ?_) (a' := ?_) #[true, true, true, true, true, true, true, true, true, false, false, false, false, false, false, false] rfl rfl (by kernel_rfl) (fun _ _ _ h => h) (Or.inl ⟨by rfl, ?_⟩) ?_ ?_
        rotate_left
        · intro w'
          go_simp
          with_reducible rfl
        rotate_left
        · simp only [Act.put, List.setIfInBounds_toArray, List.set_cons_zero, List.set_cons_succ]
          rfl
        refine pure_ (i := 9) (N := some 55) (v := ?_) (a' := ?_) #[true, true, true, true, true, true, true, true, true, true, false, false, false, false, false, false] rfl rfl (by kernel_rfl) (fun _ _ _ h => h) (Or.inl ⟨by rfl, ?_⟩) ?_ ?_
        rotate_left
        · intro w'
          go_simp
          with_reducible rfl
        rotate_left
        · simp only [Act.put, List.setIfInBounds_toArray, List.set_cons_zero, List.set_cons_succ]
          rfl
        refine pure_ (i := 10) (N := some 56) (v := ?_) (a' := ?_) #[true, true, true, true, true, true, true, true, true, true, true, false, false, false, false, false] rfl rfl (by kernel_rfl) (fun _ _ _ h => h) (Or.inl ⟨by rfl, ?_⟩) ?_ ?_
        rotate_left
        · intro w'
          go_simp
          with_reducible rfl
        rotate_left
        · simp only [Act.put, List.setIfInBounds_toArray, List.set_cons_zero, List.set_cons_succ]
          rfl
        refine take_ (i := 11) (N := some 57) (v := ?_) (a' := ?_) #[true, true, true, true, true, true, true, true, true, true, true, true, false, false, false, false] rfl rfl (by kernel_rfl) (fun _ _ _ h => h) (Or.inl ⟨by rfl, ?_⟩) hHeld ?_ ?_
        rotate_left
        · rintro w' ⟨s0, s1, s2⟩
          go_simp
          with_reducible rfl
        rotate_left
        · simp only [Act.put, List.setIfInBounds_toArray, List.set_cons_zero, List.set_cons_succ]
          rfl
        refine two_ (i := 12) (j := 14) (Ni := some 58) (Nj := some 7) #[true, true, true, true, true, true, true, true, true, true, true, true, true, false, false, false] #[true, true, true, true, true, true, true, true, true, true, true, true, false, false, true, false] rfl rfl rfl rfl (by kernel_rfl) (by decide) (by decide) (fun K hK => ?_) (fun K hK => ?_)
        · refine goes_ Try.func27 (by kernel_rfl) rfl #[.slice (some ⟨bp, 0, none⟩) n n] (by rfl) rfl rfl (by simp only [List.map_toArray, List.map_cons, List.map_nil]; rfl) ?_
          refine (HCL.out W0 HB0.out).mono ?_
          rintro e W1 ⟨v, rfl, hv, hb⟩
          obtain ⟨Av, cv, rfl⟩ := Kd.R_slice hv.out
          rw [Hnp.out] at hv ⊢
          refine ⟨_, rfl, ?_⟩
          have HB1 := Lib.hid (HB0.out.trans (hb.out.mono HB0.out.size))
          have HV1 := Lib.hid (Kd.R_lower hv.out HB0.out.size)
          refine hK.out _ _ ⟨pw_cell_below hb.out hHeld.1, pw_cell_below hb.out hHeld.2.1, pw_cell_below hb.out hHeld.2.2⟩ (fun hHeld => ?_)
          clear hK K hb hv HB0
          refine norm_ (a' := ?_) ?_ ?_
          rotate_left
          · show Act.put _ (some 58) _ = _
            simp only [Act.put, List.setIfInBounds_toArray, List.set_cons_zero, List.set_cons_succ]
            rfl
          refine pure_ (i := 13) (N := some 59) (v := ?_) (a' := ?_) #[true, true, true, true, true, true, true, true, true, true, true, true, true, true, false, false] rfl rfl (by kernel_rfl) (fun _ _ _ h => h) (Or.inl ⟨by rfl, ?_⟩) ?_ ?_
          rotate_left
          · intro w'
            go_simp
            with_reducible rfl
          rotate_left
          · simp only [Act.put, List.setIfInBounds_toArray, List.set_cons_zero, List.set_cons_succ]
            rfl
          refine one_ (i := 14) (N := some 7) #[true, true, true, true, true, true, true, true, true, true, true, true, true, true, true, false] rfl rfl (by kernel_rfl) (by decide) (fun K hK => ?_)
          refine value_ (w1 := (W1.alloc (.cells #[.int .i64 0, .int .u32 0, .slice none 0 0] 44))) (v := .pointer (some ⟨W1.heap.size, 0, none⟩)) (by rfl) rfl (by go_simp) ?_
          have HG2 : Hid ((W1.alloc (.cells #[.int .i64 0, .int .u32 0, .slice none 0 0] 44)).heap[W1.heap.size]? = some (.cells #[.int .i64 0, .int .u32 0, .slice none 0 0] 44 (0, 0))) := Lib.hid (blk_new _ _)
          have HB2 := Lib.hid (HB1.out.alloc HB1.out.size (.cells #[.int .i64 0, .int .u32 0, .slice none 0 0] 44))
          have Hgo : Hid (wr.heap.size ≤ W1.heap.size) := Lib.hid HB1.out.size
          have HV2 := Lib.hid (Kd.R_alloc HV1.out (.cells #[.int .i64 0, .int .u32 0, .slice none 0 0] 44))
          refine hK.out _ _ ⟨pw_cell_below ((Below.refl _ _).alloc (Nat.le_refl _) _) hHeld.1, pw_cell_below ((Below.refl _ _).alloc (Nat.le_refl _) _) hHeld.2.1, pw_cell_below ((Below.refl _ _).alloc (Nat.le_refl _) _) hHeld.2.2⟩ (fun hHeld => ?_)
          clear hK K HB1 HV1
          generalize (W1.alloc (.cells #[.int .i64 0, .int .u32 0, .slice none 0 0] 44)) = W2 at *
          generalize W1.heap.size = go at *
          refine norm_ (a' := ?_) ?_ ?_
          rotate_left
          · show Act.put _ (some 7) _ = _
            simp only [Act.put, List.setIfInBounds_toArray, List.set_cons_zero, List.set_cons_succ]
            rfl
          refine last_ (i := 15) (N := none) #[true, true, true, true, true, true, true, true, true, true, true, true, true, true, true, true] rfl rfl (by kernel_rfl) (by decide) (fun K hK => ?_)
          have y0 : W2.cell? ⟨go, 0, none⟩ = some (.int .i64 0) := blk_at HG2.out 0 rfl
          have y1 : W2.cell? ⟨go, 1, none⟩ = some (.int .u32 0) := blk_at HG2.out 1 rfl
          have y2 : W2.cell? ⟨go, 2, none⟩ = some (.slice none 0 0) := blk_at HG2.out 2 rfl
          have z0 : W2.frozen? ⟨go, 0, none⟩ = false := blk_frozen HG2.out 0
          have z1 : W2.frozen? ⟨go, 1, none⟩ = false := blk_frozen HG2.out 1
          have z2 : W2.frozen? ⟨go, 2, none⟩ = false := blk_frozen HG2.out 2
          refine skip_ (w1 := (((W2.setCell ⟨go, 0, none⟩ (.int .i64 under)).setCell ⟨go, 1, none⟩ (.int .u32 sum)).setCell ⟨go, 2, none⟩ (.slice Av n cv))) (by rfl) rfl (by go_simp) ?_
          refine hK.out _ _ ?_
          clear hK K y0 y1 y2 z0 z1 z2
          refine done_ (by kernel_rfl) ?_
          have gg : ∀ (W : World) (i : Nat) (u : Value), Below wr.heap.size wr W → Below wr.heap.size wr (W.setCell ⟨go, i, none⟩ u) := fun W i u hW => hW.setCell (by have := Hgo.out; simp only []; omega) _
          have hg1 := blk_put HG2.out 0 (.int .i64 under) rfl
          have hg2 := blk_put hg1 1 (.int .u32 sum) rfl
          have hg3 := blk_put hg2 2 (.slice Av n cv) rfl
          have hv3 := Kd.R_set (Kd.R_set (Kd.R_set HV2.out HG2.out e40pk 0 (.int .i64 under)) hg1 e40pk 1 (.int .u32 sum)) hg2 e40pk 2 (.slice Av n cv)
          go_wp2_with (fail)
          go_meet
          exact ⟨go, Av, cv, rfl, Lib.hid hg3, Lib.hid hv3, Lib.hid (gg _ 2 _ (gg _ 1 _ (gg _ 0 _ HB2.out))), Hgo⟩
        · refine value_ (w1 := (W0.alloc (.cells #[.int .i64 0, .int .u32 0, .slice none 0 0] 44))) (v := .pointer (some ⟨W0.heap.size, 0, none⟩)) (by rfl) rfl (by go_simp) ?_
          have HG1 : Hid ((W0.alloc (.cells #[.int .i64 0, .int .u32 0, .slice none 0 0] 44)).heap[W0.heap.size]? = some (.cells #[.int .i64 0, .int .u32 0, .slice none 0 0] 44 (0, 0))) := Lib.hid (blk_new _ _)
          have HB1 := Lib.hid (HB0.out.alloc HB0.out.size (.cells #[.int .i64 0, .int .u32 0, .slice none 0 0] 44))
          have Hgo : Hid (wr.heap.size ≤ W0.heap.size) := Lib.hid HB0.out.size
          refine hK.out _ _ ⟨pw_cell_below ((Below.refl _ _).alloc (Nat.le_refl _) _) hHeld.1, pw_cell_below ((Below.refl _ _).alloc (Nat.le_refl _) _) hHeld.2.1, pw_cell_below ((Below.refl _ _).alloc (Nat.le_refl _) _) hHeld.2.2⟩ (fun hHeld => ?_)
          clear hK K HB0
          generalize (W0.alloc (.cells #[.int .i64 0, .int .u32 0, .slice none 0 0] 44)) = W1 at *
          generalize W0.heap.size = go at *
          refine norm_ (a' := ?_) ?_ ?_
          rotate_left
          · show Act.put _ (some 7) _ = _
            simp only [Act.put, List.setIfInBounds_toArray, List.set_cons_zero, List.set_cons_succ]
            rfl
          refine one_ (i := 12) (N := some 58) #[true, true, true, true, true, true, true, true, true, true, true, true, true, false, true, false] rfl rfl (by kernel_rfl) (by decide) (fun K hK => ?_)
          refine goes_ Try.func27 (by kernel_rfl) rfl #[.slice (some ⟨bp, 0, none⟩) n n] (by rfl) rfl rfl (by simp only [List.map_toArray, List.map_cons, List.map_nil]; rfl) ?_
          refine (HCL.out W1 HB1.out).mono ?_
          rintro e W2 ⟨v, rfl, hv, hb⟩
          obtain ⟨Av, cv, rfl⟩ := Kd.R_slice hv.out
          rw [Hnp.out] at hv ⊢
          refine ⟨_, rfl, ?_⟩
          have HB2 := Lib.hid (HB1.out.trans (hb.out.mono HB1.out.size))
          have HV2 := Lib.hid (Kd.R_lower hv.out HB1.out.size)
          have HG2 := Lib.hid (blk_below HG1.out hb.out)
          refine hK.out _ _ ⟨pw_cell_below hb.out hHeld.1, pw_cell_below hb.out hHeld.2.1, pw_cell_below hb.out hHeld.2.2⟩ (fun hHeld => ?_)
          clear hK K hb hv HB1 HG1
          refine norm_ (a' := ?_) ?_ ?_
          rotate_left
          · show Act.put _ (some 58) _ = _
            simp only [Act.put, List.setIfInBounds_toArray, List.set_cons_zero, List.set_cons_succ]
            rfl
          refine pure_ (i := 13) (N := some 59) (v := ?_) (a' := ?_) #[true, true, true, true, true, true, true, true, true, true, true, true, true, true, true, false] rfl rfl (by kernel_rfl) (fun _ _ _ h => h) (Or.inl ⟨by rfl, ?_⟩) ?_ ?_
          rotate_left
          · intro w'
            go_simp
            with_reducible rfl
          rotate_left
          · simp only [Act.put, List.setIfInBounds_toArray, List.set_cons_zero, List.set_cons_succ]
            rfl
          refine last_ (i := 15) (N := none) #[true, true, true, true, true, true, true, true, true, true, true, true, true, true, true, true] rfl rfl (by kernel_rfl) (by decide) (fun K hK => ?_)
          have y0 : W2.cell? ⟨go, 0, none⟩ = some (.int .i64 0) := blk_at HG2.out 0 rfl
          have y1 : W2.cell? ⟨go, 1, none⟩ = some (.int .u32 0) := blk_at HG2.out 1 rfl
          have y2 : W2.cell? ⟨go, 2, none⟩ = some (.slice none 0 0) := blk_at HG2.out 2 rfl
          have z0 : W2.frozen? ⟨go, 0, none⟩ = false := blk_frozen HG2.out 0
          have z1 : W2.frozen? ⟨go, 1, none⟩ = false := blk_frozen HG2.out 1
          have z2 : W2.frozen? ⟨go, 2, none⟩ = false := blk_frozen HG2.out 2
          refine skip_ (w1 := (((W2.setCell ⟨go, 0, none⟩ (.int .i64 under)).setCell ⟨go, 1, none⟩ (.int .u32 sum)).setCell ⟨go, 2, none⟩ (.slice Av n cv))) (by rfl) rfl (by go_simp) ?_
          refine hK.out _ _ ?_
          clear hK K y0 y1 y2 z0 z1 z2
          refine done_ (by kernel_rfl) ?_
          have gg : ∀ (W : World) (i : Nat) (u : Value), Below wr.heap.size wr W → Below wr.heap.size wr (W.setCell ⟨go, i, none⟩ u) := fun W i u hW => hW.setCell (by have := Hgo.out; simp only []; omega) _
          have hg1 := blk_put HG2.out 0 (.int .i64 under) rfl
          have hg2 := blk_put hg1 1 (.int .u32 sum) rfl
          have hg3 := blk_put hg2 2 (.slice Av n cv) rfl
          have hv3 := Kd.R_set (Kd.R_set (Kd.R_set HV2.out HG2.out e40pk 0 (.int .i64 under)) hg1 e40pk 1 (.int .u32 sum)) hg2 e40pk 2 (.slice Av n cv)
          go_wp2_with (fail)
          go_meet
          exact ⟨go, Av, cv, rfl, Lib.hid hg3, Lib.hid hv3, Lib.hid (gg _ 2 _ (gg _ 1 _ (gg _ 0 _ HB2.out))), Hgo⟩
      case rest =>
      obtain ⟨go, Av, cv, rfl, HG8, HV7, HB8, Hgo⟩ := hcut
      clear q0 q2 q6 HCL
      obtain ⟨own6, hown6⟩ : ∃ own6 : Nat → Nat, own6 = fresh own1 wr 0 := ⟨_, rfl⟩
      have hu8 : ∀ T, Upd T own1 wr own6 wc := fun T => by rw [hown6]; exact Upd.of_below HB8.out 0
      have HP8 := Lib.hid (HP7.out.upd (T := fun _ => False) (fun e => e) (fun e => e) (hu8 _))
      have HU8 := Lib.hid (HU7.out.then (hu8 _))
      have HD8 := Lib.hid (blk_below HD7.out HB8.out)
      have HTD6 : Hid (own6 b3 = tg + 1) := Lib.hid (by rw [hown6, fresh_old (blk_lt HD7.out)]; exact HTD.out)
      have HTG : Hid (own6 go = 0) := Lib.hid (by rw [hown6]; exact fresh_new Hgo.out)
      have Hcv := Lib.hid (Kd.R_reads' HV7.out).2.1
      have HV8 : Hid (StC k40 own6 wc Av n (S.took t x).ps) := Lib.hid (by
        have h1 := pk_R HV7.out (S := fun _ => False) (fun e => e) (hu8 (fun _ => False))
        have h2 := Kd.R_mono (Kd.R_bound h1) (ok' := fun k => own6 k = 0) (fun k hk => by rw [hown6]; exact fresh_new hk.2.1)
        have h3 := StC_of_pk h2
        rw [HP7.out.e1] at h3
        exact h3)
      clear hu8 hown6 HV7 HP7 HU7 HD7 HB8
      go_upto_region 14 with (fail)
      refine start_ (n := 9) (S := (fun w' => w'.cell? ⟨g, 3, none⟩ = some (.map (some bm)) ∧ w'.cell? ⟨g, 2, none⟩ = some (.int .i64 under))) (ds := [8]) #[false, false, false, false, false, false, false, false, false] (by kernel_rfl) rfl rfl ⟨blk_at HP8.out.hb 3 rfl, by rw [Hun.out]; exact blk_at HP8.out.hb 2 rfl⟩ (fun hHeld => ?_)
      have HP8' := Lib.hid HP8.out.drew
      have HU8' := Lib.hid (HU8.out.then (Upd.drew (S := (· = tg)) (own := own6)))
      have HG8' : Hid (wc.drew.heap[go]? = some (.cells #[.int .i64 under, .int .u32 sum, .slice Av n cv] 44 (0, 0))) := HG8
      have HD8' : Hid (wc.drew.heap[b3]? = some (.cells #[.int .i64 0, .int .u32 0, .slice none 0 0] 44 (0, 0))) := HD8
      have HV8' := Lib.hid (HV8.out.upd (S := fun _ => False) (fun e => e) Upd.drew)
      clear HP8 HU8 HG8 HD8 HV8
      generalize wc.drew = W at *
      refine pure_ (i := 0) (N := some 60) (v := ?_) (a' := ?_) #[true, false, false, false, false, false, false, false, false] rfl rfl (by kernel_rfl) (fun _ _ _ h => h) (Or.inl ⟨by rfl, ?_⟩) ?_ ?_
      rotate_left
      · intro w'
        go_simp
        with_reducible rfl
      rotate_left
      · simp only [Act.put, List.setIfInBounds_toArray, List.set_cons_zero, List.set_cons_succ]
        rfl
      refine pure_ (i := 1) (N := some 61) (v := ?_) (a' := ?_) #[true, true, false, false, false, false, false, false, false] rfl rfl (by kernel_rfl) (fun _ _ _ h => h) (Or.inl ⟨by rfl, ?_⟩) ?_ ?_
      rotate_left
      · intro w'
        go_simp
        with_reducible rfl
      rotate_left
      · simp only [Act.put, List.setIfInBounds_toArray, List.set_cons_zero, List.set_cons_succ]
        rfl
      refine pure_ (i := 2) (N := some 62) (v := ?_) (a' := ?_) #[true, true, true, false, false, false, false, false, false] rfl rfl (by kernel_rfl) (fun _ _ _ h => h) (Or.inl ⟨by rfl, ?_⟩) ?_ ?_
      rotate_left
      · intro w'
        go_simp
        with_reducible rfl
      rotate_left
      · simp only [Act.put, List.setIfInBounds_toArray, List.set_cons_zero, List.set_cons_succ]
        rfl
      refine take_ (i := 3) (N := some 63) (v := ?_) (a' := ?_) #[true, true, true, true, false, false, false, false, false] rfl rfl (by kernel_rfl) (fun _ _ _ h => h) (Or.inl ⟨by rfl, ?_⟩) hHeld ?_ ?_
      rotate_left
      · rintro w' ⟨s0, s1⟩
        go_simp
        with_reducible rfl
      rotate_left
      · simp only [Act.put, List.setIfInBounds_toArray, List.set_cons_zero, List.set_cons_succ]
        rfl
      refine pure_ (i := 4) (N := some 64) (v := ?_) (a' := ?_) #[true, true, true, true, true, false, false, false, false] rfl rfl (by kernel_rfl) (fun _ _ _ h => h) (Or.inl ⟨by rfl, ?_⟩) ?_ ?_
      rotate_left
      · intro w'
        go_simp
        with_reducible rfl
      rotate_left
      · simp only [Act.put, List.setIfInBounds_toArray, List.set_cons_zero, List.set_cons_succ]
        rfl
      refine pure_ (i := 5) (N := some 65) (v := ?_) (a' := ?_) #[true, true, true, true, true, true, false, false, false] rfl rfl (by kernel_rfl) (fun _ _ _ h => h) (Or.inl ⟨by rfl, ?_⟩) ?_ ?_
      rotate_left
      · intro w'
        go_simp
        with_reducible rfl
      rotate_left
      · simp only [Act.put, List.setIfInBounds_toArray, List.set_cons_zero, List.set_cons_succ]
        rfl
      refine pure_ (i := 6) (N := some 66) (v := ?_) (a' := ?_) #[true, true, true, true, true, true, true, false, false] rfl rfl (by kernel_rfl) (fun _ _ _ h => h) (Or.inl ⟨by rfl, ?_⟩) ?_ ?_
      rotate_left
      · intro w'
        go_simp
        with_reducible rfl
      rotate_left
      · simp only [Act.put, List.setIfInBounds_toArray, List.set_cons_zero, List.set_cons_succ]
        rfl
      refine take_ (i := 7) (N := some 67) (v := ?_) (a' := ?_) #[true, true, true, true, true, true, true, true, false] rfl rfl (by kernel_rfl) (fun _ _ _ h => h) (Or.inl ⟨by rfl, ?_⟩) hHeld ?_ ?_
      rotate_left
      · rintro w' ⟨s0, s1⟩
        go_simp
        with_reducible rfl
      rotate_left
      · simp only [Act.put, List.setIfInBounds_toArray, List.set_cons_zero, List.set_cons_succ]
        rfl
      refine last_ (i := 8) (N := none) #[true, true, true, true, true, true, true, true, true] rfl rfl (by kernel_rfl) (by decide) (fun K hK => ?_)
      obtain ⟨w9, hr9, hP9, hU9⟩ := HP8'.out.setF H0.out under 2 HWF.out (by decide) HNM.out
      have HP9 := Lib.hid hP9
      have HU9 := Lib.hid (HU8'.out.then hU9)
      have HG9 := Lib.hid (hU9.blk HG8'.out (by rw [HTG.out]; exact fun e => H0.out e.symm))
      have HD9 := Lib.hid (hU9.blk HD8'.out (by rw [HTD6.out]; omega))
      have HV9 := Lib.hid (HV8'.out.upd (S := (· = tg)) (fun e => H0.out e.symm) hU9)
      refine skip_ (w1 := w9) (by rfl) rfl (by go_simp) ?_
      refine hK.out _ _ ?_
      clear hK K hr9 hP9 hU9 HP8' HU8' HG8' HD8' HV8'
      refine done_ (by kernel_rfl) ?_
      clear hHeld
      have y2 : w9.cell? ⟨g, 2, none⟩ = some (.int .i64 under) := by rw [Hun.out]; exact blk_at HP9.out.hb 2 rfl
      have z2 : w9.frozen? ⟨g, 2, none⟩ = false := blk_frozen HP9.out.hb 2
      have HP10 := Lib.hid (HP9.out.setU H0.out 0 (Int.le_refl _) (by have := HP9.out.ok.x1; omega))
      have hu10 : Upd (· = tg) own6 w9 own6 (w9.setCell ⟨g, 2, none⟩ (.int .i64 0)) := set_own HP9.out.og 2 _
      have HU10 := Lib.hid (HU9.out.then hu10)
      have HG10 := Lib.hid (hu10.blk HG9.out (by rw [HTG.out]; exact fun e => H0.out e.symm))
      have HD10 := Lib.hid (hu10.blk HD9.out (by rw [HTD6.out]; omega))
      have HV10 := Lib.hid (HV9.out.upd (S := (· = tg)) (fun e => H0.out e.symm) hu10)
      have HE := Lib.hid (empty25 _ _ _ _ _ _ _ _ _ _ _ _ _ _ HP10.out H0.out)
      go_upto_region 16 with (fail)
      clear y2 z2 hu10 HP9 HU9 HG9 HD9 HV9
      generalize w9.setCell ⟨g, 2, none⟩ (.int .i64 0) = w10 at *
      go_upto_region 17 with (go_at_call 25; refine HE.out.mono ?_; rintro e w11 ⟨rfl, own11, bm5, c5, bw5, bp5, nm5, s5, r5, pps5, pbuf5, hP5, hU5, hn5⟩
                              have HP11 := Lib.hid hP5
                              have HU11 := Lib.hid (HU10.out.then hU5)
                              have HG11 := Lib.hid (hU5.blk HG10.out (by rw [HTG.out]; exact fun e => H0.out e.symm))
                              have HD11 := Lib.hid (hU5.blk HD10.out (by rw [HTD6.out]; omega))
                              have HV11 := Lib.hid (HV10.out.upd (S := (· = tg)) (fun e => H0.out e.symm) hU5)
                              have HTD11 : Hid (own11 b3 = tg + 1) := Lib.hid ((hU5.same b3 (blk_lt HD10.out) (by rw [HTD6.out]; omega)).trans HTD6.out)
                              have Hn5 := Lib.hid hn5
                              clear hP5 hU5 hn5 HP10 HU10 HG10 HD10 HV10)
      refine start_ (n := 3) (S := (fun w' => w'.cell? ⟨go, 0, none⟩ = some (.int .i64 under) ∧ w'.cell? ⟨go, 1, none⟩ = some (.int .u32 sum) ∧ w'.cell? ⟨go, 2, none⟩ = some (.slice Av n cv))) (ds := [2]) #[false, false, false] (by kernel_rfl) rfl rfl ⟨blk_at HG11.out 0 rfl, blk_at HG11.out 1 rfl, blk_at HG11.out 2 rfl⟩ (fun hHeld => ?_)
      have HP12 := Lib.hid HP11.out.drew
      have HU12 := Lib.hid (HU11.out.then (Upd.drew (S := (· = tg)) (own := own11)))
      have HD12 : Hid (w11.drew.heap[b3]? = some (.cells #[.int .i64 0, .int .u32 0, .slice none 0 0] 44 (0, 0))) := HD11
      have HV12 := Lib.hid (HV11.out.upd (S := fun _ => False) (fun e => e) Upd.drew)
      clear HP11 HU11 HD11 HV11
      generalize w11.drew = W at *
      refine take_ (i := 0) (N := some 73) (v := ?_) (a' := ?_) #[true, false, false] rfl rfl (by kernel_rfl) (fun _ _ _ h => h) (Or.inl ⟨by rfl, ?_⟩) hHeld ?_ ?_
      rotate_left
      · rintro w' ⟨s0, s1, s2⟩
        go_simp
        with_reducible rfl
      rotate_left
      · simp only [Act.put, List.setIfInBounds_toArray, List.set_cons_zero, List.set_cons_succ]
        rfl
      refine pure_ (i := 1) (N := some 2) (v := ?_) (a' := ?_) #[true, true, false] rfl rfl (by kernel_rfl) (fun _ _ _ h => h) (Or.inl ⟨by rfl, ?_⟩) ?_ ?_
      rotate_left
      · intro w'
        go_simp
        with_reducible rfl
      rotate_left
      · simp only [Act.put, List.setIfInBounds_toArray, List.set_cons_zero, List.set_cons_succ]
        rfl
      refine last_ (i := 2) (N := none) #[true, true, true] rfl rfl (by kernel_rfl) (by decide) (fun K hK => ?_)
      have y0 : W.cell? ⟨b3, 0, none⟩ = some (.int .i64 0) := blk_at HD12.out 0 rfl
      have z0 : W.frozen? ⟨b3, 0, none⟩ = false := blk_frozen HD12.out 0
      have y1 : W.cell? ⟨b3, 1, none⟩ = some (.int .u32 0) := blk_at HD12.out 1 rfl
      have z1 : W.frozen? ⟨b3, 1, none⟩ = false := blk_frozen HD12.out 1
      have y2 : W.cell? ⟨b3, 2, none⟩ = some (.slice none 0 0) := blk_at HD12.out 2 rfl
      have z2 : W.frozen? ⟨b3, 2, none⟩ = false := blk_frozen HD12.out 2
      
      refine skip_ (w1 := (((W.setCell ⟨b3, 0, none⟩ (.int .i64 under)).setCell ⟨b3, 1, none⟩ (.int .u32 sum)).setCell ⟨b3, 2, none⟩ (.slice Av n cv))) (by rfl) rfl (by go_simp) ?_
      refine hK.out _ _ ?_
      clear hK K y0 y1 y2 z0 z1 z2
      refine done_ (by kernel_rfl) ?_
      clear hHeld
      go_wp2_with (fail)
      refine bodyPost_ret (results_list (rs := [.tmp 2, .cell 3 44]) (vs := [.int .i64 2, .agg #[.int .i64 under, .int .u32 sum, .slice Av n cv]]) rfl (by simp) (.tmp (.cell b3 44 #[.int .i64 under, .int .u32 sum, .slice Av n cv] (0, 0) _ rfl (blk_put (blk_put (blk_put HD12.out 0 (.int .i64 under) rfl) 1 (.int .u32 sum) rfl) 2 (.slice Av n cv) rfl) Try.underlying44 rfl (by kernel_rfl) .nil))) rfl ?_
      have hb3 : w.heap.size ≤ b3 := by rw [Hb3.out]; exact Nat.le_refl _
      have hu : ∀ (W : World) (i : Nat) (u : Value), Upd (· = tg + 1) own11 W own11 (W.setCell ⟨b3, i, none⟩ u) := fun W i u => set_own HTD11.out i u
      have hu3 := (((hu W 0 (.int .i64 under)).then (hu _ 1 (.int .u32 sum))).then (hu _ 2 (.slice Av n cv)))
      have hP := HP12.out.upd (T := (· = tg + 1)) (fun e => by omega) (fun e => by omega) hu3
      unfold PickAns
      rw [Hbuf.out]
      simp only []
      rw [if_pos HALL.out]
      have hlp : (S.took t x).ps.length = n := HV12.out.len
      refine ⟨own11, bm5, c5, bw5, bp5, nm5, s5, r5, pps5, pbuf5, .slice Av n cv, by rw [Hun.out, Hsum.out], ⟨Av, cv, by rw [hlp], by rw [hlp]; exact Hcv.out, by rw [hlp]; exact HV12.out.upd (S := (· = tg + 1)) (fun e => by omega) hu3⟩, ?_, ((HU12.out.setNew (p := ⟨b3, 0, none⟩) hb3 _).setNew (p := ⟨b3, 1, none⟩) hb3 _).setNew (p := ⟨b3, 2, none⟩) hb3 _, Hn5.out⟩
      have he : (S.took t x).shot = (((S.took t x).setF under 2).setU 0).emptied := by unfold PS.shot; rw [show (S.took t x).under = under from Hun.out.symm]
      rw [he]
      exact hP
theorem pick12 (own : Nat → Nat) (w : World) (g tg : Nat) (S : PS) (bm c bw bp nm s r : Nat) (pps : List PP) (pbuf : List (Nat × PP)) (h : PostAt own w g tg S bm c bw bp nm s r pps pbuf) (h0 : tg ≠ 0) (hnm : nm < maxLen) :
    Calls Try.prog 12 #[.pointer (some ⟨g, 0, none⟩)] w fun e w' => PickAns own w g tg nm S e w' := by
  rcases pbuf with _ | ⟨⟨t, x, cs⟩, rest⟩
  · refine (pick12_none own w g tg S bm c bw bp nm s r pps [] h h0 rfl).mono ?_
    rintro e w' ⟨rfl, hb⟩
    have hbuf : S.buf = [] := by rw [← h.e2]; rfl
    unfold PickAns
    rw [hbuf]
    exact ⟨rfl, fresh own w 0, bm, c, bw, bp, nm, s, r, pps, [], h.upd (T := fun _ => False) (fun e => e) (fun e => e) (Upd.of_below hb.out 0), Upd.of_below hb.out 0, Nat.le_refl _⟩
  · exact pick12_some own w g tg S bm c bw bp nm s r pps _ h h0 hnm t x cs rest rfl
end Go.Proofs.Ytcbaiplamaopeaa.PPostShots
