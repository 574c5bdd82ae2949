/- Trigger, Status, Settle, Abort, Open. -/
import Derived.Test.YtcbaiplamaopeaaPD
namespace Go.Proofs.Ytcbaiplamaopeaa.PPostShots
open Go.RowKit Go.Conc Go.Proofs.YtcbaiplamaopeaaW.PrintWords Go.Proofs.YtcbaiplamaopeaaW.PrintLast Go.Proofs.Ytcbaiplamaopeaa.PPost
set_option linter.unusedVariables false
set_option linter.unusedSimpArgs false

theorem wf_of {x : Int} (h1 : 0 ≤ x) (h2 : x ≤ 10000) : wfI x := by
  have := wrap64_wf x
  rw [show wrap64 x = x by unfold wrap64; omega] at this
  exact this
/-- Trigger: what it answers, what is behind it. -/
def PS.trig (S : PS) : Int × Int × PS := if 0 < S.under then (0, 141, S) else if 9999 < S.next then (0, 142, S) else (S.next, 0, (((S.setU S.next).setN (S.next + 1)).setF S.next 1).emptied)
set_option maxRecDepth 100000 in
set_option maxHeartbeats 4000000 in
theorem trigger9_under (own : Nat → Nat) (w : World) (g tg : Nat) (S : PS) (bm c bw bp nm s r : Nat) (pps : List PP) (pbuf : List (Nat × PP)) (h : PostAt own w g tg S bm c bw bp nm s r pps pbuf) (h0 : tg ≠ 0) (hu : 0 < S.under) :
    Calls Try.prog 9 #[.pointer (some ⟨g, 0, none⟩)] w fun e w' => e = .returned (.tuple #[.int .i64 0, .int .i64 141]) ∧ w = w' := by
  have q2 : w.cell? ⟨g, 2, none⟩ = some (.int .i64 S.under) := blk_at h.hb 2 rfl
  have k1 : decide (0 < S.under) = true := decide_eq_true hu
  clear h hu
  go_enter Try.func9, Try.ntmps9
  go_wp2_with (fail)
  go_ret2
  exact ⟨rfl, rfl⟩
set_option maxRecDepth 100000 in
set_option maxHeartbeats 4000000 in
theorem trigger9_ids (own : Nat → Nat) (w : World) (g tg : Nat) (S : PS) (bm c bw bp nm s r : Nat) (pps : List PP) (pbuf : List (Nat × PP)) (h : PostAt own w g tg S bm c bw bp nm s r pps pbuf) (h0 : tg ≠ 0) (hu : ¬ 0 < S.under) (hx : 9999 < S.next) :
    Calls Try.prog 9 #[.pointer (some ⟨g, 0, none⟩)] w fun e w' => e = .returned (.tuple #[.int .i64 0, .int .i64 142]) ∧ w = w' := by
  have q2 : w.cell? ⟨g, 2, none⟩ = some (.int .i64 S.under) := blk_at h.hb 2 rfl
  have q1 : w.cell? ⟨g, 1, none⟩ = some (.int .i64 S.next) := blk_at h.hb 1 rfl
  have k1 : decide (0 < S.under) = false := decide_eq_false hu
  have k2 : decide (9999 < S.next) = true := decide_eq_true hx
  clear h hu hx
  go_enter Try.func9, Try.ntmps9
  go_wp2_with (fail)
  go_ret2
  exact ⟨rfl, rfl⟩
set_option maxRecDepth 100000 in
set_option maxHeartbeats 4000000 in
theorem trigger9_ok (own : Nat → Nat) (w : World) (g tg : Nat) (S : PS) (bm c bw bp nm s r : Nat) (pps : List PP) (pbuf : List (Nat × PP)) (h : PostAt own w g tg S bm c bw bp nm s r pps pbuf) (h0 : tg ≠ 0) (hu : ¬ 0 < S.under) (hx : ¬ 9999 < S.next) (hnm : nm < maxLen) :
    Calls Try.prog 9 #[.pointer (some ⟨g, 0, none⟩)] w fun e w' => e = .returned (.tuple #[.int .i64 S.next, .int .i64 0]) ∧ PostTo own w g tg (nm + 1) (((S.setU S.next).setN (S.next + 1)).setF S.next 1).emptied w' := by
  have q2 : w.cell? ⟨g, 2, none⟩ = some (.int .i64 S.under) := blk_at h.hb 2 rfl
  have q1 : w.cell? ⟨g, 1, none⟩ = some (.int .i64 S.next) := blk_at h.hb 1 rfl
  have z2 : w.frozen? ⟨g, 2, none⟩ = false := blk_frozen h.hb 2
  have p1 : (w.setCell ⟨g, 2, none⟩ (.int .i64 S.next)).cell? ⟨g, 1, none⟩ = some (.int .i64 S.next) := blk_at (blk_put h.hb 2 _ rfl) 1 rfl
  have y1 : (w.setCell ⟨g, 2, none⟩ (.int .i64 S.next)).frozen? ⟨g, 1, none⟩ = false := blk_frozen (blk_put h.hb 2 _ rfl) 1
  have k1 : decide (0 < S.under) = false := decide_eq_false hu
  have k2 : decide (9999 < S.next) = false := decide_eq_false hx
  have x1 := h.ok.x1
  have x2 : S.next ≤ 9999 := by omega
  have HP2 := Lib.hid (h.setUN h0 x2)
  have HU2 : Hid (Upd (· = tg) own w own ((w.setCell ⟨g, 2, none⟩ (.int .i64 S.next)).setCell ⟨g, 1, none⟩ (.int .i64 (S.next + 1)))) := Lib.hid ((set_own h.og _ _).then (set_own h.og _ _))
  have HWF := Lib.hid (wf_of (x := S.next) (by omega) (by omega))
  have H0 := Lib.hid h0
  have HNM := Lib.hid hnm
  clear h hu hx h0 hnm
  go_enter Try.func9, Try.ntmps9
  go_upto_region 7 with (fail)
  clear q1 q2 z2 p1 y1 k1 k2
  refine start_ (n := 9) (S := (fun w' => w'.cell? ⟨g, 3, none⟩ = some (.map (some bm)) ∧ w'.cell? ⟨g, 2, none⟩ = some (.int .i64 S.next))) (ds := [8]) #[false, false, false, false, false, false, false, false, false] (by kernel_rfl) rfl rfl ⟨blk_at HP2.out.hb 3 rfl, blk_at HP2.out.hb 2 rfl⟩ (fun hHeld => ?_)
  have HP3 := Lib.hid HP2.out.drew
  have HU3 := Lib.hid (HU2.out.then (Upd.drew (S := (· = tg)) (own := own)))
  clear HP2 HU2
  generalize ((w.setCell ⟨g, 2, none⟩ (.int .i64 S.next)).setCell ⟨g, 1, none⟩ (.int .i64 (S.next + 1))).drew = W at *
  refine pure_ (i := 0) (N := some 28) (v := ?_) (a' := ?_) #[true, false, false, false, false, false, false, false, false] rfl rfl (by kernel_rfl) (fun _ _ _ h => h) (Or.inl ⟨by rfl, ?_⟩) ?_ ?_
  rotate_left
  · intro w'
    go_simp
    with_reducible rfl
  rotate_left
  · simp only [Act.put, List.setIfInBounds_toArray, List.set_cons_zero, List.set_cons_succ]
    rfl
  refine pure_ (i := 1) (N := some 29) (v := ?_) (a' := ?_) #[true, true, false, false, false, false, false, false, false] rfl rfl (by kernel_rfl) (fun _ _ _ h => h) (Or.inl ⟨by rfl, ?_⟩) ?_ ?_
  rotate_left
  · intro w'
    go_simp
    with_reducible rfl
  rotate_left
  · simp only [Act.put, List.setIfInBounds_toArray, List.set_cons_zero, List.set_cons_succ]
    rfl
  refine pure_ (i := 2) (N := some 30) (v := ?_) (a' := ?_) #[true, true, true, false, false, false, false, false, false] rfl rfl (by kernel_rfl) (fun _ _ _ h => h) (Or.inl ⟨by rfl, ?_⟩) ?_ ?_
  rotate_left
  · intro w'
    go_simp
    with_reducible rfl
  rotate_left
  · simp only [Act.put, List.setIfInBounds_toArray, List.set_cons_zero, List.set_cons_succ]
    rfl
  refine take_ (i := 3) (N := some 31) (v := ?_) (a' := ?_) #[true, true, true, true, false, false, false, false, false] rfl rfl (by kernel_rfl) (fun _ _ _ h => h) (Or.inl ⟨by rfl, ?_⟩) hHeld ?_ ?_
  rotate_left
  · rintro w' ⟨s0, s1⟩
    go_simp
    with_reducible rfl
  rotate_left
  · simp only [Act.put, List.setIfInBounds_toArray, List.set_cons_zero, List.set_cons_succ]
    rfl
  refine pure_ (i := 4) (N := some 32) (v := ?_) (a' := ?_) #[true, true, true, true, true, false, false, false, false] rfl rfl (by kernel_rfl) (fun _ _ _ h => h) (Or.inl ⟨by rfl, ?_⟩) ?_ ?_
  rotate_left
  · intro w'
    go_simp
    with_reducible rfl
  rotate_left
  · simp only [Act.put, List.setIfInBounds_toArray, List.set_cons_zero, List.set_cons_succ]
    rfl
  refine pure_ (i := 5) (N := some 33) (v := ?_) (a' := ?_) #[true, true, true, true, true, true, false, false, false] rfl rfl (by kernel_rfl) (fun _ _ _ h => h) (Or.inl ⟨by rfl, ?_⟩) ?_ ?_
  rotate_left
  · intro w'
    go_simp
    with_reducible rfl
  rotate_left
  · simp only [Act.put, List.setIfInBounds_toArray, List.set_cons_zero, List.set_cons_succ]
    rfl
  refine pure_ (i := 6) (N := some 34) (v := ?_) (a' := ?_) #[true, true, true, true, true, true, true, false, false] rfl rfl (by kernel_rfl) (fun _ _ _ h => h) (Or.inl ⟨by rfl, ?_⟩) ?_ ?_
  rotate_left
  · intro w'
    go_simp
    with_reducible rfl
  rotate_left
  · simp only [Act.put, List.setIfInBounds_toArray, List.set_cons_zero, List.set_cons_succ]
    rfl
  refine take_ (i := 7) (N := some 35) (v := ?_) (a' := ?_) #[true, true, true, true, true, true, true, true, false] rfl rfl (by kernel_rfl) (fun _ _ _ h => h) (Or.inl ⟨by rfl, ?_⟩) hHeld ?_ ?_
  rotate_left
  · rintro w' ⟨s0, s1⟩
    go_simp
    with_reducible rfl
  rotate_left
  · simp only [Act.put, List.setIfInBounds_toArray, List.set_cons_zero, List.set_cons_succ]
    rfl
  refine last_ (i := 8) (N := none) #[true, true, true, true, true, true, true, true, true] rfl rfl (by kernel_rfl) (by decide) (fun K hK => ?_)
  obtain ⟨w3, hr3, hP3, hU3⟩ := HP3.out.setF H0.out S.next 1 HWF.out (by decide) HNM.out
  have HP4 := Lib.hid hP3
  have HU4 := Lib.hid (HU3.out.then hU3)
  clear hP3 hU3
  refine skip_ (w1 := w3) (by rfl) rfl (by go_simp) ?_
  refine hK.out _ _ ?_
  clear hK K hr3
  refine done_ (by kernel_rfl) ?_
  have HE := Lib.hid (empty25 _ _ _ _ _ _ _ _ _ _ _ _ _ _ HP4.out H0.out)
  go_upto_region 9 with (go_at_call 25; refine HE.out.mono ?_; rintro e w5 ⟨rfl, own5, bm5, c5, bw5, bp5, nm5, s5, r5, pps5, pbuf5, hP5, hU5, hn5⟩)
  have q2 : w5.cell? ⟨g, 2, none⟩ = some (.int .i64 S.next) := blk_at hP5.hb 2 rfl
  have HP5 := Lib.hid hP5
  have HU5 := Lib.hid (HU4.out.then hU5)
  have Hn5 := Lib.hid hn5
  clear hP5 hU5 hn5 hHeld
  go_wp2_with (fail)
  go_ret2
  exact ⟨rfl, own5, bm5, c5, bw5, bp5, nm5, s5, r5, pps5, pbuf5, HP5.out, HU5.out, Hn5.out⟩
theorem trigger9 (own : Nat → Nat) (w : World) (g tg : Nat) (S : PS) (bm c bw bp nm s r : Nat) (pps : List PP) (pbuf : List (Nat × PP)) (h : PostAt own w g tg S bm c bw bp nm s r pps pbuf) (h0 : tg ≠ 0) (hnm : nm < maxLen) :
    Calls Try.prog 9 #[.pointer (some ⟨g, 0, none⟩)] w fun e w' => e = .returned (.tuple #[.int .i64 S.trig.1, .int .i64 S.trig.2.1]) ∧ PostTo own w g tg (nm + 1) S.trig.2.2 w' := by
  unfold PS.trig
  by_cases hu : 0 < S.under
  · rw [if_pos hu]
    refine (trigger9_under own w g tg S bm c bw bp nm s r pps pbuf h h0 hu).mono ?_
    rintro e w' ⟨rfl, rfl⟩
    exact ⟨rfl, own, bm, c, bw, bp, nm, s, r, pps, pbuf, h, Upd.refl _ _ _, by omega⟩
  · rw [if_neg hu]
    by_cases hx : 9999 < S.next
    · rw [if_pos hx]
      refine (trigger9_ids own w g tg S bm c bw bp nm s r pps pbuf h h0 hu hx).mono ?_
      rintro e w' ⟨rfl, rfl⟩
      exact ⟨rfl, own, bm, c, bw, bp, nm, s, r, pps, pbuf, h, Upd.refl _ _ _, by omega⟩
    · rw [if_neg hx]
      exact trigger9_ok own w g tg S bm c bw bp nm s r pps pbuf h h0 hu hx hnm
set_option maxRecDepth 100000 in
set_option maxHeartbeats 4000000 in
theorem status14 (own : Nat → Nat) (w : World) (g tg : Nat) (S : PS) (bm c bw bp nm s r : Nat) (pps : List PP) (pbuf : List (Nat × PP)) (h : PostAt own w g tg S bm c bw bp nm s r pps pbuf) (h0 : tg ≠ 0) (id : Int) (hid : wfI id) :
    Calls Try.prog 14 #[.pointer (some ⟨g, 0, none⟩), .int .i64 id] w fun e w' => e = .returned (.int .i64 (S.f id)) ∧ w = w' := by
  have q3 : w.cell? ⟨g, 3, none⟩ = some (.map (some bm)) := blk_at h.hb 3 rfl
  have hlook := h.hm.look Try.underlying72 Try.underlying3 (Try.zeroValue3 w) id hid
  clear h
  go_enter Try.func14, Try.ntmps14
  go_wp2_with (fail)
  go_ret
  exact ⟨rfl, rfl⟩
def PS.settle (S : PS) (id : Int) (ok : Bool) : Int × PS := if S.f id = 2 then (0, if ok then (S.setF id 4).setF id 3 else S.setF id 4) else (147, S)
set_option maxRecDepth 100000 in
set_option maxHeartbeats 4000000 in
theorem settle23_no (own : Nat → Nat) (w : World) (g tg : Nat) (S : PS) (bm c bw bp nm s r : Nat) (pps : List PP) (pbuf : List (Nat × PP)) (h : PostAt own w g tg S bm c bw bp nm s r pps pbuf) (h0 : tg ≠ 0) (id : Int) (ok : Bool) (hid : wfI id) (hf : ¬ S.f id = 2) :
    Calls Try.prog 23 #[.pointer (some ⟨g, 0, none⟩), .int .i64 id, .bool ok] w fun e w' => e = .returned (.int .i64 147) ∧ w = w' := by
  have q3 : w.cell? ⟨g, 3, none⟩ = some (.map (some bm)) := blk_at h.hb 3 rfl
  have hlook := h.hm.look Try.underlying72 Try.underlying3 (Try.zeroValue3 w) id hid
  have k1 : (S.f id == 2) = false := by simpa using hf
  clear h hf
  go_enter Try.func23, Try.ntmps23
  go_wp2_with (fail)
  go_ret
  exact ⟨rfl, rfl⟩
set_option maxRecDepth 100000 in
set_option maxHeartbeats 4000000 in
theorem settle23_ok (own : Nat → Nat) (w : World) (g tg : Nat) (S : PS) (bm c bw bp nm s r : Nat) (pps : List PP) (pbuf : List (Nat × PP)) (h : PostAt own w g tg S bm c bw bp nm s r pps pbuf) (h0 : tg ≠ 0) (id : Int) (ok : Bool) (hid : wfI id) (hf : S.f id = 2) (hnm : nm + 1 < maxLen) :
    Calls Try.prog 23 #[.pointer (some ⟨g, 0, none⟩), .int .i64 id, .bool ok] w fun e w' => e = .returned (.int .i64 0) ∧ PostTo own w g tg (nm + 2) (if ok then (S.setF id 4).setF id 3 else S.setF id 4) w' := by
  have q3 : w.cell? ⟨g, 3, none⟩ = some (.map (some bm)) := blk_at h.hb 3 rfl
  have hlook := h.hm.look Try.underlying72 Try.underlying3 (Try.zeroValue3 w) id hid
  have k1 : (S.f id == 2) = true := by simpa using hf
  obtain ⟨w2, hr2, hP2, hU2⟩ := h.setF h0 id 4 hid (by decide) (by omega)
  have HP2 := Lib.hid hP2
  have HU2 := Lib.hid hU2
  have p3 : w2.cell? ⟨g, 3, none⟩ = some (.map (some bm)) := blk_at HP2.out.hb 3 rfl
  obtain ⟨w3, hr3, hP3, hU3⟩ := HP2.out.setF h0 id 3 hid (by decide) (by omega)
  have HP3 := Lib.hid hP3
  have HU3 := Lib.hid (HU2.out.then hU3)
  clear h hf hP2 hU2 hP3 hU3
  go_enter Try.func23, Try.ntmps23
  cases ok with
  | true =>
    go_wp2_with (fail)
    go_ret
    exact ⟨rfl, own, bm, c, bw, bp, _, s, r, pps, pbuf, HP3.out, HU3.out, by omega⟩
  | false =>
    go_wp2_with (fail)
    go_ret
    exact ⟨rfl, own, bm, c, bw, bp, _, s, r, pps, pbuf, HP2.out, HU2.out, by omega⟩
theorem settle23 (own : Nat → Nat) (w : World) (g tg : Nat) (S : PS) (bm c bw bp nm s r : Nat) (pps : List PP) (pbuf : List (Nat × PP)) (h : PostAt own w g tg S bm c bw bp nm s r pps pbuf) (h0 : tg ≠ 0) (id : Int) (ok : Bool) (hid : wfI id) (hnm : nm + 1 < maxLen) :
    Calls Try.prog 23 #[.pointer (some ⟨g, 0, none⟩), .int .i64 id, .bool ok] w fun e w' => e = .returned (.int .i64 (S.settle id ok).1) ∧ PostTo own w g tg (nm + 2) (S.settle id ok).2 w' := by
  unfold PS.settle
  by_cases hf : S.f id = 2
  · rw [if_pos hf]
    exact settle23_ok own w g tg S bm c bw bp nm s r pps pbuf h h0 id ok hid hf hnm
  · rw [if_neg hf]
    refine (settle23_no own w g tg S bm c bw bp nm s r pps pbuf h h0 id ok hid hf).mono ?_
    rintro e w' ⟨rfl, rfl⟩
    exact ⟨rfl, own, bm, c, bw, bp, nm, s, r, pps, pbuf, h, Upd.refl _ _ _, by omega⟩
def PS.abort (S : PS) : Int × Int × PS := if S.under = 0 then (0, 146, S) else (S.under, 0, ((S.setF S.under 4).setU 0).emptied)
set_option maxRecDepth 100000 in
set_option maxHeartbeats 4000000 in
theorem abort22_no (own : Nat → Nat) (w : World) (g tg : Nat) (S : PS) (bm c bw bp nm s r : Nat) (pps : List PP) (pbuf : List (Nat × PP)) (h : PostAt own w g tg S bm c bw bp nm s r pps pbuf) (h0 : tg ≠ 0) (hu : S.under = 0) :
    Calls Try.prog 22 #[.pointer (some ⟨g, 0, none⟩)] w fun e w' => e = .returned (.tuple #[.int .i64 0, .int .i64 146]) ∧ w = w' := by
  have q2 : w.cell? ⟨g, 2, none⟩ = some (.int .i64 S.under) := blk_at h.hb 2 rfl
  have k1 : (S.under == 0) = true := by simpa using hu
  clear h hu
  go_enter Try.func22, Try.ntmps22
  go_wp2_with (fail)
  go_ret2
  exact ⟨rfl, rfl⟩
set_option maxRecDepth 100000 in
set_option maxHeartbeats 4000000 in
theorem abort22_ok (own : Nat → Nat) (w : World) (g tg : Nat) (S : PS) (bm c bw bp nm s r : Nat) (pps : List PP) (pbuf : List (Nat × PP)) (h : PostAt own w g tg S bm c bw bp nm s r pps pbuf) (h0 : tg ≠ 0) (hu : ¬ S.under = 0) (hnm : nm < maxLen) :
    Calls Try.prog 22 #[.pointer (some ⟨g, 0, none⟩)] w fun e w' => e = .returned (.tuple #[.int .i64 S.under, .int .i64 0]) ∧ PostTo own w g tg (nm + 1) ((S.setF S.under 4).setU 0).emptied w' := by
  have q2 : w.cell? ⟨g, 2, none⟩ = some (.int .i64 S.under) := blk_at h.hb 2 rfl
  have q3 : w.cell? ⟨g, 3, none⟩ = some (.map (some bm)) := blk_at h.hb 3 rfl
  have k1 : (S.under == 0) = false := by simpa using hu
  obtain ⟨w2, hr2, hP2, hU2⟩ := h.setF h0 S.under 4 (wf_of h.ok.u1 (by have := h.ok.u2; have := h.ok.x2; omega)) (by decide) hnm
  have HP2 := Lib.hid hP2
  have HU2 := Lib.hid hU2
  have p2 : w2.cell? ⟨g, 2, none⟩ = some (.int .i64 S.under) := blk_at HP2.out.hb 2 rfl
  have z2 : w2.frozen? ⟨g, 2, none⟩ = false := blk_frozen HP2.out.hb 2
  have HP3 := Lib.hid (HP2.out.setU h0 0 (Int.le_refl _) (by have := HP2.out.ok.x1; omega))
  have HU3 := Lib.hid (HU2.out.then (set_own HP2.out.og 2 (.int .i64 0)))
  have HE := Lib.hid (empty25 _ _ _ _ _ _ _ _ _ _ _ _ _ _ HP3.out h0)
  clear h hu hP2 hU2
  go_enter Try.func22, Try.ntmps22
  go_wp2_with (go_at_call 25; refine HE.out.mono ?_; rintro e w5 ⟨rfl, own5, bm5, c5, bw5, bp5, nm5, s5, r5, pps5, pbuf5, hP5, hU5, hn5⟩
               have HP5 := Lib.hid hP5
               have HU5 := Lib.hid (HU3.out.then hU5)
               have Hn5 := Lib.hid hn5
               clear hP5 hU5 hn5)
  go_ret2
  exact ⟨rfl, own5, bm5, c5, bw5, bp5, nm5, s5, r5, pps5, pbuf5, HP5.out, HU5.out, Hn5.out⟩
theorem abort22 (own : Nat → Nat) (w : World) (g tg : Nat) (S : PS) (bm c bw bp nm s r : Nat) (pps : List PP) (pbuf : List (Nat × PP)) (h : PostAt own w g tg S bm c bw bp nm s r pps pbuf) (h0 : tg ≠ 0) (hnm : nm < maxLen) :
    Calls Try.prog 22 #[.pointer (some ⟨g, 0, none⟩)] w fun e w' => e = .returned (.tuple #[.int .i64 S.abort.1, .int .i64 S.abort.2.1]) ∧ PostTo own w g tg (nm + 1) S.abort.2.2 w' := by
  unfold PS.abort
  by_cases hu : S.under = 0
  · rw [if_pos hu]
    refine (abort22_no own w g tg S bm c bw bp nm s r pps pbuf h h0 hu).mono ?_
    rintro e w' ⟨rfl, rfl⟩
    exact ⟨rfl, own, bm, c, bw, bp, nm, s, r, pps, pbuf, h, Upd.refl _ _ _, by omega⟩
  · rw [if_neg hu]
    exact abort22_ok own w g tg S bm c bw bp nm s r pps pbuf h h0 hu hnm
/-- The tasks whose parts are still to be taken. -/
def leftOf (wh : List Int) : Nat → List Int
  | 0 => []
  | k + 1 => if wh.getD k 0 = 2 then leftOf wh k else leftOf wh k ++ [(k : Int)]
theorem leftOf_len (wh : List Int) : ∀ k, (leftOf wh k).length ≤ k
  | 0 => Nat.le_refl _
  | k + 1 => by
    have := leftOf_len wh k
    unfold leftOf
    by_cases hc : wh.getD k 0 = 2
    · rw [if_pos hc]; omega
    · rw [if_neg hc, List.length_append, List.length_singleton]; omega
def PS.open_ (S : PS) : Int × List Int := if S.under = 0 then (0, []) else (S.under, leftOf S.wh S.n)
set_option maxRecDepth 100000 in
set_option maxHeartbeats 4000000 in
theorem open17_no (own : Nat → Nat) (w : World) (g tg : Nat) (S : PS) (bm c bw bp nm s r : Nat) (pps : List PP) (pbuf : List (Nat × PP)) (h : PostAt own w g tg S bm c bw bp nm s r pps pbuf) (h0 : tg ≠ 0) (hu : S.under = 0) :
    Calls Try.prog 17 #[.pointer (some ⟨g, 0, none⟩)] w fun e w' => e = .returned (.tuple #[.int .i64 0, .slice none 0 0]) ∧ w = w' := by
  have q2 : w.cell? ⟨g, 2, none⟩ = some (.int .i64 S.under) := blk_at h.hb 2 rfl
  have k1 : (S.under == 0) = true := by simpa using hu
  clear h hu
  go_enter Try.func17, Try.ntmps17
  go_wp2_with (fail)
  go_ret2
  exact ⟨rfl, rfl⟩
set_option maxRecDepth 100000 in
set_option maxHeartbeats 4000000 in
theorem open17_ok (own : Nat → Nat) (w : World) (g tg : Nat) (S : PS) (bm c bw bp nm s r : Nat) (pps : List PP) (pbuf : List (Nat × PP)) (h : PostAt own w g tg S bm c bw bp nm s r pps pbuf) (h0 : tg ≠ 0) (hu : ¬ S.under = 0) :
    Calls Try.prog 17 #[.pointer (some ⟨g, 0, none⟩)] w fun e w' => ∃ v, e = .returned (.tuple #[.int .i64 S.under, v]) ∧ Hid ((Kd.int .i64).R 3 w' w.heap.size (fun _ => True) v (leftOf S.wh S.n)) ∧ Hid (Below w.heap.size w w') := by
  have q2 : w.cell? ⟨g, 2, none⟩ = some (.int .i64 S.under) := blk_at h.hb 2 rfl
  have k1 : (S.under == 0) = false := by simpa using hu
  obtain ⟨n, hn⟩ : ∃ n, n = S.n := ⟨_, rfl⟩
  have q5 : w.cell? ⟨g, 5, none⟩ = some (.slice (some ⟨bw, 0, none⟩) n n) := by rw [hn]; exact blk_at h.hb 5 rfl
  have hn12 : n ≤ 12 := by rw [hn]; exact h.ok.n2
  have HH := Lib.hid h
  have Hn := Lib.hid hn
  rw [← hn]
  clear h hu hn
  go_enter Try.func17, Try.ntmps17
  go_wp2_with (fail)
  go_loopw [4, 17] (fun v4 v17 wr => ∃ k : Nat, k ≤ n ∧ v17 = .int .i64 k ∧ Hid ((Kd.int .i64).R 3 wr w.heap.size (fun _ => True) v4 (leftOf S.wh k)) ∧ Hid (Below w.heap.size w wr)) (fun _ v17 _ => n - (intOf v17).toNat)
  case atStart => exact ⟨0, Nat.zero_le _, rfl, Lib.hid (Kd.R_nil _ _ _ _ _), Lib.hid (Below.refl _ _)⟩
  case round =>
    obtain ⟨k, hk, rfl, HR, HB⟩ := hrel
    obtain ⟨Ao, co, hv⟩ := Kd.R_slice HR.out
    subst hv
    by_cases hlt : k < n
    · have a0 : wr.cell? ⟨bw, k, none⟩ = some (.int .i64 (S.wh.getD k 0)) := pw_cell_below HB.out (HH.out.wcell k (by rw [← Hn.out]; exact hlt))
      have hl2 : leftOf S.wh (k + 1) = if S.wh.getD k 0 = 2 then leftOf S.wh k else leftOf S.wh k ++ [(k : Int)] := rfl
      generalize S.wh.getD k 0 = x at *
      by_cases hw2 : x = 2
      · have k2 : (x == 2) = true := by simpa using hw2
        rw [if_pos hw2] at hl2
        have HL2 := Lib.hid hl2
        clear hw2 hl2
        go_wp2_with (fail)
        go_roundw
        case rel => exact ⟨k + 1, by omega, by go_num, by rw [HL2.out]; exact HR, HB⟩
        case measure => simp [intOf]; omega
      · have k2 : (x == 2) = false := by simpa using hw2
        rw [if_neg hw2] at hl2
        have HL2 := Lib.hid hl2
        have HLL := Lib.hid (leftOf_len S.wh k)
        clear hw2 hl2
        go_wp2_with (at_builtin; refine Kd.R_append (Kd.int .i64) (w0 := w) w.heap.size rfl (.tmp 24) (.tmp 26) 23 3 (.int .i64 0) 8 rfl Try.underlying23 info3 rfl (show 0 < 1 by decide) (by decide) (.slice Ao (leftOf S.wh k).length co) (leftOf S.wh k) (k : Int) _ (fun _ => True) (fun k_ => True ∧ some k_ ≠ (Value.slice Ao (leftOf S.wh k).length co).ownBlock) rfl rfl ?hp (fun _ hk => hk) (fun _ _ => trivial) HR.out HB.out ?hS ?hl ?_
                     case hp => rfl
                     case hS => exact HB.out.size
                     case hl => have := HLL.out; omega
                     intro v1 w4 O4 B4 hg4 hat4
                     have HR4 := Lib.hid O4
                     have HB4 := Lib.hid B4
                     clear O4 B4 hg4 hat4)
        go_roundw
        case rel => exact ⟨k + 1, by omega, by go_num, by rw [HL2.out]; exact HR4, HB4⟩
        case measure => simp [intOf]; omega
    · obtain rfl : k = n := by omega
      have p2 : wr.cell? ⟨g, 2, none⟩ = some (.int .i64 S.under) := pw_cell_below HB.out q2
      go_wp2_with (fail)
      go_ret2
      exact ⟨_, rfl, HR, HB⟩
theorem open17 (own : Nat → Nat) (w : World) (g tg : Nat) (S : PS) (bm c bw bp nm s r : Nat) (pps : List PP) (pbuf : List (Nat × PP)) (h : PostAt own w g tg S bm c bw bp nm s r pps pbuf) (h0 : tg ≠ 0) :
    Calls Try.prog 17 #[.pointer (some ⟨g, 0, none⟩)] w fun e w' => ∃ v, e = .returned (.tuple #[.int .i64 S.open_.1, v]) ∧ Hid ((Kd.int .i64).R 3 w' w.heap.size (fun _ => True) v S.open_.2) ∧ Hid (Below w.heap.size w w') := by
  unfold PS.open_
  by_cases hu : S.under = 0
  · rw [if_pos hu]
    refine (open17_no own w g tg S bm c bw bp nm s r pps pbuf h h0 hu).mono ?_
    rintro e w' ⟨rfl, rfl⟩
    exact ⟨_, rfl, Lib.hid (Kd.R_nil _ _ _ _ _), Lib.hid (Below.refl _ _)⟩
  · rw [if_neg hu]
    exact open17_ok own w g tg S bm c bw bp nm s r pps pbuf h h0 hu
end Go.Proofs.Ytcbaiplamaopeaa.PPostShots
