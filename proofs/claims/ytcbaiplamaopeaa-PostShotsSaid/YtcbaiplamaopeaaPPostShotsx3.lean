-- PRINTED BY print.sh 35421559b90ae4d0a3588c463048766b98c2df88dd9212a6774a882060cdf62d: not written by this session
import Derived.Test.YtcbaiplamaopeaaPPostShotsx0
import Derived.Test.YtcbaiplamaopeaaPPostShotsx2
namespace Go.Proofs.Ytcbaiplamaopeaa.PPostShots
open Go.RowKit Go.Proofs.YtcbaiplamaopeaaW.PrintWords Go.Proofs.YtcbaiplamaopeaaW.PrintLast Go.Proofs.YtcbaiplamaopeaaW.PrintMore
attribute [local go_sem] max2_int min2_int max_two min_two max_three min_three max_four min_four   -- for this text's walks alone
set_option linter.unusedVariables false
set_option linter.unusedSimpArgs false

/-! ### eddylaw14_sameState: function 28 -/
mutual
def eddylaw14_sameState.j0 : Nat → Bool → Int → List (S103) → Int → List (S103) → Option (Bool)
  | 0, _, _, _, _, _ => none
  | k + 1, x22, x168000, x168001, x169000, x169001 => if x22 = true then (some false) else (eddylaw14_sameState.l0 k 0 x168000 x168001 x169000 x169001)
def eddylaw14_sameState.l0 : Nat → Int → Int → List (S103) → Int → List (S103) → Option (Bool)
  | 0, _, _, _, _, _ => none
  | k + 1, x5, x168000, x168001, x169000, x169001 => if x5 < (x168001.length : Int) then (if 0 ≤ x5 then (if x5 < (x169001.length : Int) then (if ((rd_T103 x168001 x5).f0).toList = ((rd_T103 x169001 x5).f0).toList then (eddylaw14_sameState.j2 k x5 ((((rd_T103 x168001 x5).f1).length : Int) != (((rd_T103 x169001 x5).f1).length : Int)) x168000 x168001 x169000 x169001 ((rd_T103 x168001 x5).f0) ((rd_T103 x168001 x5).f1) ((rd_T103 x169001 x5).f0) ((rd_T103 x169001 x5).f1)) else (eddylaw14_sameState.j2 k x5 true x168000 x168001 x169000 x169001 ((rd_T103 x168001 x5).f0) ((rd_T103 x168001 x5).f1) ((rd_T103 x169001 x5).f0) ((rd_T103 x169001 x5).f1))) else (none)) else (none)) else (some true)
def eddylaw14_sameState.j2 : Nat → Int → Bool → Int → List (S103) → Int → List (S103) → ByteArray → List (S81) → ByteArray → List (S81) → Option (Bool)
  | 0, _, _, _, _, _, _, _, _, _, _ => none
  | k + 1, x5, x53, x168000, x168001, x169000, x169001, x172000, x172001, x173000, x173001 => if x53 = true then (some false) else (eddylaw14_sameState.l1 k x5 0 x168000 x168001 x169000 x169001 x172000 x172001 x173000 x173001)
def eddylaw14_sameState.l1 : Nat → Int → Int → Int → List (S103) → Int → List (S103) → ByteArray → List (S81) → ByteArray → List (S81) → Option (Bool)
  | 0, _, _, _, _, _, _, _, _, _, _ => none
  | k + 1, x5, x8, x168000, x168001, x169000, x169001, x172000, x172001, x173000, x173001 => if x8 < (x172001.length : Int) then (if 0 ≤ x8 then (if x8 < (x173001.length : Int) then ((eddylaw14_sameValue.f k ((rd_T81 x172001 x8).f0) ((rd_T81 x172001 x8).f1) ((rd_T81 x172001 x8).f2) ((rd_T81 x172001 x8).f3) ((rd_T81 x173001 x8).f0) ((rd_T81 x173001 x8).f1) ((rd_T81 x173001 x8).f2) ((rd_T81 x173001 x8).f3)).bind fun t175 => (if t175 = true then (eddylaw14_sameState.l1 k x5 (wrap64 (x8 + 1)) x168000 x168001 x169000 x169001 x172000 x172001 x173000 x173001) else (some false))) else (none)) else (none)) else (eddylaw14_sameState.l0 k (wrap64 (x5 + 1)) x168000 x168001 x169000 x169001)
end
def eddylaw14_sameState.f (k : Nat) (a0_0 : Int) (l0_1 : List (S103)) (a1_0 : Int) (l1_1 : List (S103)) : Option (Bool) := if a0_0 = a1_0 then (eddylaw14_sameState.j0 k ((l0_1.length : Int) != (l1_1.length : Int)) a0_0 l0_1 a1_0 l1_1) else (eddylaw14_sameState.j0 k true a0_0 l0_1 a1_0 l1_1)
theorem eddylaw14_sameState.mono_l : ∀ k, (∀ y0 y1 y2 y3 y4, LeO (eddylaw14_sameState.j0 k y0 y1 y2 y3 y4) (eddylaw14_sameState.j0 (k + 1) y0 y1 y2 y3 y4)) ∧ (∀ y0 y1 y2 y3 y4, LeO (eddylaw14_sameState.l0 k y0 y1 y2 y3 y4) (eddylaw14_sameState.l0 (k + 1) y0 y1 y2 y3 y4)) ∧ (∀ y0 y1 y2 y3 y4 y5 y6 y7 y8 y9, LeO (eddylaw14_sameState.j2 k y0 y1 y2 y3 y4 y5 y6 y7 y8 y9) (eddylaw14_sameState.j2 (k + 1) y0 y1 y2 y3 y4 y5 y6 y7 y8 y9)) ∧ (∀ y0 y1 y2 y3 y4 y5 y6 y7 y8 y9, LeO (eddylaw14_sameState.l1 k y0 y1 y2 y3 y4 y5 y6 y7 y8 y9) (eddylaw14_sameState.l1 (k + 1) y0 y1 y2 y3 y4 y5 y6 y7 y8 y9))
  | 0 => ⟨fun _ _ _ _ _ r h => by simp [eddylaw14_sameState.j0] at h, fun _ _ _ _ _ r h => by simp [eddylaw14_sameState.l0] at h, fun _ _ _ _ _ _ _ _ _ _ r h => by simp [eddylaw14_sameState.j2] at h, fun _ _ _ _ _ _ _ _ _ _ r h => by simp [eddylaw14_sameState.l1] at h⟩
  | k + 1 => by
    obtain ⟨ih0, ih1, ih2, ih3⟩ := eddylaw14_sameState.mono_l k
    refine ⟨?_, ?_, ?_, ?_⟩
    · intro y0 y1 y2 y3 y4
      unfold eddylaw14_sameState.j0
      repeat' first
      | (with_reducible exact ih0 _ _ _ _ _)
      | (with_reducible exact ih1 _ _ _ _ _)
      | (with_reducible exact ih2 _ _ _ _ _ _ _ _ _ _)
      | (with_reducible exact ih3 _ _ _ _ _ _ _ _ _ _)
      | (with_reducible exact eddylaw14_sameValue.mono _ _ _ _ _ _ _ _ _)
      | (with_reducible exact LeO.refl _)
      | (with_reducible exact LeO.none _)
      | (with_reducible refine LeO.ite ?_ ?_)
      | (with_reducible refine LeO.bind ?_ (fun _ => ?_))
      | exact ih0 _ _ _ _ _
      | exact ih1 _ _ _ _ _
      | exact ih2 _ _ _ _ _ _ _ _ _ _
      | exact ih3 _ _ _ _ _ _ _ _ _ _
      | exact eddylaw14_sameValue.mono _ _ _ _ _ _ _ _ _
      | exact LeO.none _
      | refine LeO.ite ?_ ?_
      | refine LeO.bind ?_ (fun _ => ?_)
    · intro y0 y1 y2 y3 y4
      unfold eddylaw14_sameState.l0
      repeat' first
      | (with_reducible exact ih0 _ _ _ _ _)
      | (with_reducible exact ih1 _ _ _ _ _)
      | (with_reducible exact ih2 _ _ _ _ _ _ _ _ _ _)
      | (with_reducible exact ih3 _ _ _ _ _ _ _ _ _ _)
      | (with_reducible exact eddylaw14_sameValue.mono _ _ _ _ _ _ _ _ _)
      | (with_reducible exact LeO.refl _)
      | (with_reducible exact LeO.none _)
      | (with_reducible refine LeO.ite ?_ ?_)
      | (with_reducible refine LeO.bind ?_ (fun _ => ?_))
      | exact ih0 _ _ _ _ _
      | exact ih1 _ _ _ _ _
      | exact ih2 _ _ _ _ _ _ _ _ _ _
      | exact ih3 _ _ _ _ _ _ _ _ _ _
      | exact eddylaw14_sameValue.mono _ _ _ _ _ _ _ _ _
      | exact LeO.none _
      | refine LeO.ite ?_ ?_
      | refine LeO.bind ?_ (fun _ => ?_)
    · intro y0 y1 y2 y3 y4 y5 y6 y7 y8 y9
      unfold eddylaw14_sameState.j2
      repeat' first
      | (with_reducible exact ih0 _ _ _ _ _)
      | (with_reducible exact ih1 _ _ _ _ _)
      | (with_reducible exact ih2 _ _ _ _ _ _ _ _ _ _)
      | (with_reducible exact ih3 _ _ _ _ _ _ _ _ _ _)
      | (with_reducible exact eddylaw14_sameValue.mono _ _ _ _ _ _ _ _ _)
      | (with_reducible exact LeO.refl _)
      | (with_reducible exact LeO.none _)
      | (with_reducible refine LeO.ite ?_ ?_)
      | (with_reducible refine LeO.bind ?_ (fun _ => ?_))
      | exact ih0 _ _ _ _ _
      | exact ih1 _ _ _ _ _
      | exact ih2 _ _ _ _ _ _ _ _ _ _
      | exact ih3 _ _ _ _ _ _ _ _ _ _
      | exact eddylaw14_sameValue.mono _ _ _ _ _ _ _ _ _
      | exact LeO.none _
      | refine LeO.ite ?_ ?_
      | refine LeO.bind ?_ (fun _ => ?_)
    · intro y0 y1 y2 y3 y4 y5 y6 y7 y8 y9
      unfold eddylaw14_sameState.l1
      repeat' first
      | (with_reducible exact ih0 _ _ _ _ _)
      | (with_reducible exact ih1 _ _ _ _ _)
      | (with_reducible exact ih2 _ _ _ _ _ _ _ _ _ _)
      | (with_reducible exact ih3 _ _ _ _ _ _ _ _ _ _)
      | (with_reducible exact eddylaw14_sameValue.mono _ _ _ _ _ _ _ _ _)
      | (with_reducible exact LeO.refl _)
      | (with_reducible exact LeO.none _)
      | (with_reducible refine LeO.ite ?_ ?_)
      | (with_reducible refine LeO.bind ?_ (fun _ => ?_))
      | exact ih0 _ _ _ _ _
      | exact ih1 _ _ _ _ _
      | exact ih2 _ _ _ _ _ _ _ _ _ _
      | exact ih3 _ _ _ _ _ _ _ _ _ _
      | exact eddylaw14_sameValue.mono _ _ _ _ _ _ _ _ _
      | exact LeO.none _
      | refine LeO.ite ?_ ?_
      | refine LeO.bind ?_ (fun _ => ?_)
theorem eddylaw14_sameState.mono : ∀ a0 a1 a2 a3 k, LeO (eddylaw14_sameState.f k a0 a1 a2 a3) (eddylaw14_sameState.f (k + 1) a0 a1 a2 a3) := by
  intro a0 a1 a2 a3 k
  obtain ⟨ih0, ih1, ih2, ih3⟩ := eddylaw14_sameState.mono_l k
  unfold eddylaw14_sameState.f
  repeat' first
      | (with_reducible exact ih0 _ _ _ _ _)
      | (with_reducible exact ih1 _ _ _ _ _)
      | (with_reducible exact ih2 _ _ _ _ _ _ _ _ _ _)
      | (with_reducible exact ih3 _ _ _ _ _ _ _ _ _ _)
      | (with_reducible exact eddylaw14_sameValue.mono _ _ _ _ _ _ _ _ _)
      | (with_reducible exact LeO.refl _)
      | (with_reducible exact LeO.none _)
      | (with_reducible refine LeO.ite ?_ ?_)
      | (with_reducible refine LeO.bind ?_ (fun _ => ?_))
      | exact ih0 _ _ _ _ _
      | exact ih1 _ _ _ _ _
      | exact ih2 _ _ _ _ _ _ _ _ _ _
      | exact ih3 _ _ _ _ _ _ _ _ _ _
      | exact eddylaw14_sameValue.mono _ _ _ _ _ _ _ _ _
      | exact LeO.none _
      | refine LeO.ite ?_ ?_
      | refine LeO.bind ?_ (fun _ => ?_)
def eddylaw14_sameState.T6 : Bool × List (List Nat × List Nat) := (true, [([], []), ([0], [0]), ([], []), ([1, 2], [1, 2]), ([3], [3]), ([], []), ([5], [5]), ([], []), ([6, 7], [6, 7]), ([8], [8]), ([], []), ([], []), ([10, 4, 0, 1, 2, 3, 4, 10, 11], [4, 10]), ([11, 9, 12, 0, 1, 2, 3, 4, 5, 6, 7, 8, 9, 10, 11, 12], [9, 11])])
def eddylaw14_sameState.B6 : List Nat := [0, 1, 0, 7, 15, 0, 32, 0, 224, 480, 0, 0, 3103, 8191]
theorem eddylaw14_sameState.tab6 : rtab .any (opsOf Try.f28 6) = eddylaw14_sameState.T6 := by kernel_rfl
theorem eddylaw14_sameState.bits6 : waitsOk eddylaw14_sameState.T6.2 eddylaw14_sameState.B6 = true := by kernel_rfl
def eddylaw14_sameState.T12 : Bool × List (List Nat × List Nat) := (true, [([], []), ([0], [0]), ([], []), ([1, 2], [1, 2]), ([3], [3]), ([], []), ([5], [5]), ([], []), ([6, 7], [6, 7]), ([8], [8]), ([4, 9], [4, 9]), ([10], [10])])
def eddylaw14_sameState.B12 : List Nat := [0, 1, 0, 7, 15, 0, 32, 0, 224, 480, 1023, 2047]
theorem eddylaw14_sameState.tab12 : rtab .any (opsOf Try.f28 12) = eddylaw14_sameState.T12 := by kernel_rfl
theorem eddylaw14_sameState.bits12 : waitsOk eddylaw14_sameState.T12.2 eddylaw14_sameState.B12 = true := by kernel_rfl
set_option maxHeartbeats 8000000 in
set_option maxRecDepth 100000 in
theorem eddylaw14_sameState.calls (k : Nat) (a0_0 : Int) (A0_1 : Option Addr) (c0_1 : Nat) (l0_1 : List (S103)) (a1_0 : Int) (A1_1 : Option Addr) (c1_1 : Nat) (l1_1 : List (S103)) (r : Bool) (w : World) (hr0_1 : Kd.C k103 w A0_1 l0_1.length l0_1) (hc0_1 : l0_1.length ≤ c0_1) (hr1_1 : Kd.C k103 w A1_1 l1_1.length l1_1) (hc1_1 : l1_1.length ≤ c1_1) (h : eddylaw14_sameState.f k a0_0 l0_1 a1_0 l1_1 = some r) :
    Calls Try.prog 28 #[.agg #[.int .i64 a0_0, .slice A0_1 l0_1.length c0_1], .agg #[.int .i64 a1_0, .slice A1_1 l1_1.length c1_1]] w fun e w' => e = .returned (.bool r) ∧ Below w.heap.size w w' := by
  have hu36 := Try.underlying36
  have hu103 := Try.underlying103
  have hu81 := Try.underlying81
  have HR0_1 := Aside0.mk hr0_1
  have HC0_1 := Aside0.mk hc0_1
  clear hr0_1 hc0_1
  have HR1_1 := Aside0.mk hr1_1
  have HC1_1 := Aside0.mk hc1_1
  clear hr1_1 hc1_1
  have HB := Aside0.mk (Below.refl w.heap.size w)
  have H : (if a0_0 = a1_0 then (eddylaw14_sameState.j0 k ((l0_1.length : Int) != (l1_1.length : Int)) a0_0 l0_1 a1_0 l1_1) else (eddylaw14_sameState.j0 k true a0_0 l0_1 a1_0 l1_1)) = some r := h
  clear h
  have HC3 := Aside0.mk H
  clear H
  go_enter Try.func28, Try.ntmps28
  go_upto_region 1 with (first | ((with_reducible refine gate_dst (N := 2) rfl ?_); (try (refine gate_guard (by rfl) ?_; dsimp only)); refine box_event ?hg (N := 2) ?hd (cs := #[.int .i64 a0_0, .slice A0_1 l0_1.length c0_1]) (t := 36) ?hr ?_; (case hd => rfl); (case hg => rfl); (case hr => first | (go_simp; done) | (go_simp; rfl)); intro gb167 hg w4 hbox hb; have n0_ := Aside0.mk (below_step (by repeat (first | (with_reducible first | exact HB.out | apply below_alloc | apply pw_below_drewN | apply below_drew1) | exact HB.out)) hb); have n1_ := Aside0.mk (hbox); have n2_ := Aside0.mk ((by rw [hg]; exact (below_size (by repeat (first | (with_reducible first | exact HB.out | apply below_alloc | apply pw_below_drewN | apply below_drew1) | exact HB.out))) : w.heap.size ≤ gb167)); have n3_ := Aside0.mk ((by rw [hg]; exact (below_size (by repeat (first | (with_reducible first | exact HB.out | apply below_alloc | apply pw_below_drewN | apply below_drew1) | exact HB.out))) : w.heap.size ≤ gb167)); clear HB; have HB := n0_; have BK167 := n1_; have GW167 := n2_; have GE167 := n3_; clear n0_ n1_ n2_ n3_; clear hb hbox hg) | ((with_reducible refine gate_dst (N := 3) rfl ?_); (try (refine gate_guard (by rfl) ?_; dsimp only)); refine box_event ?hg (N := 3) ?hd (cs := #[.int .i64 a1_0, .slice A1_1 l1_1.length c1_1]) (t := 36) ?hr ?_; (case hd => rfl); (case hg => rfl); (case hr => first | (go_simp; done) | (go_simp; rfl)); intro gb168 hg w5 hbox hb; have n0_ := Aside0.mk (blk_below (g := gb167) (o := .cells #[.int .i64 a0_0, .slice A0_1 l0_1.length c0_1] 36 (0, 0)) (by (with_reducible repeat (first | refine blk_drewN ?_ _ | refine blk_drew ?_ | refine blk_alloc ?_ _)); exact BK167.out) hb); have n1_ := Aside0.mk (below_step (by repeat (first | (with_reducible first | exact HB.out | apply below_alloc | apply pw_below_drewN | apply below_drew1 | refine below_set ?_ GE167.out) | exact HB.out)) hb); have n2_ := Aside0.mk (hbox); have n3_ := Aside0.mk ((by rw [hg]; exact (below_size (by repeat (first | (with_reducible first | exact HB.out | apply below_alloc | apply pw_below_drewN | apply below_drew1 | refine below_set ?_ GE167.out) | exact HB.out))) : w.heap.size ≤ gb168)); have n4_ := Aside0.mk ((by rw [hg]; exact (below_size (by repeat (first | (with_reducible first | exact HB.out | apply below_alloc | apply pw_below_drewN | apply below_drew1 | refine below_set ?_ GE167.out) | exact HB.out))) : w.heap.size ≤ gb168)); have n5_ := Aside0.mk ((by rw [hg]; exact Nat.ne_of_lt (blk_lt (g := gb167) (o := .cells #[.int .i64 a0_0, .slice A0_1 l0_1.length c0_1] 36 (0, 0)) (by (with_reducible repeat (first | refine blk_drewN ?_ _ | refine blk_drew ?_ | refine blk_alloc ?_ _)); exact BK167.out)) : gb167 ≠ gb168)); have n6_ := Aside0.mk ((by rw [hg]; exact Nat.ne_of_gt (blk_lt (g := gb167) (o := .cells #[.int .i64 a0_0, .slice A0_1 l0_1.length c0_1] 36 (0, 0)) (by (with_reducible repeat (first | refine blk_drewN ?_ _ | refine blk_drew ?_ | refine blk_alloc ?_ _)); exact BK167.out)) : gb168 ≠ gb167)); clear BK167; clear HB; have BK167 := n0_; have HB := n1_; have BK168 := n2_; have GW168 := n3_; have GE168 := n4_; have NB167_168 := n5_; have NB168_167 := n6_; clear n0_ n1_ n2_ n3_ n4_ n5_ n6_; clear hb hbox hg))
  (try simp only [Act.put, List.setIfInBounds_toArray, List.set_cons_zero, List.set_cons_succ])
  go_cut [22] (fun v22 wc => ∃ (kq : Nat) (x22_2 : Bool), v22 = .bool x22_2 ∧ Aside0 (eddylaw14_sameState.j0 kq x22_2 a0_0 l0_1 a1_0 l1_1 = some r) ∧ Aside0 (kq ≤ k) ∧ Aside0 (wc.heap[gb167]? = some (.cells #[.int .i64 a0_0, (.slice A0_1 l0_1.length c0_1)] 36 (0, 0))) ∧ Aside0 (wc.heap[gb168]? = some (.cells #[.int .i64 a1_0, (.slice A1_1 l1_1.length c1_1)] 36 (0, 0))) ∧ Aside0 (Below w.heap.size w wc))
  case first =>
    have H := HC3.out
    clear HC3
    by_cases c6 : a0_0 = a1_0
    · rw [if_pos c6] at H
      have c6b0 : (a0_0 == a1_0) = true := beq_iff_eq.mpr c6
      have c6b1 : (a0_0 != a1_0) = false := bne_eq_false_iff_eq.mpr c6
      clear c6
      (first | rw [c6b0] | (simp only [i64_w, i32_w]; rw [c6b0]) | skip)
      have H' := Aside0.mk H
      clear H
      have hnb7 := NB167_168.out
      have hnc7 := NB168_167.out
      have hcz8_0 : w5.cell? ⟨gb167, 0, none⟩ = some (.int .i64 a0_0) := (blk_cell BK167.out 0).trans rfl
      have hcz8_1 : w5.cell? ⟨gb167, 1, none⟩ = some (.slice A0_1 l0_1.length c0_1) := (blk_cell BK167.out 1).trans rfl
      have hfz8_0 := blk_frozen BK167.out 0
      have hfz8_1 := blk_frozen BK167.out 1
      have hcz9_0 : w5.cell? ⟨gb168, 0, none⟩ = some (.int .i64 a1_0) := (blk_cell BK168.out 0).trans rfl
      have hcz9_1 : w5.cell? ⟨gb168, 1, none⟩ = some (.slice A1_1 l1_1.length c1_1) := (blk_cell BK168.out 1).trans rfl
      have hfz9_0 := blk_frozen BK168.out 0
      have hfz9_1 := blk_frozen BK168.out 1
      go_wp2
      go_meet
      case rel => exact ⟨_, (((l0_1.length : Int) != (l1_1.length : Int))), (by first | rfl | (simp; done) | (simp [*]; done)), H', ⟨by first | omega | exact Nat.le_refl _⟩, ⟨by (with_reducible repeat (first | refine blk_drewN ?_ _ | refine blk_drew ?_ | refine blk_alloc ?_ _)); exact BK167.out⟩, ⟨by (with_reducible repeat (first | refine blk_drewN ?_ _ | refine blk_drew ?_ | refine blk_alloc ?_ _)); exact BK168.out⟩, ⟨by repeat (first | (with_reducible first | exact HB.out | apply below_alloc | apply pw_below_drewN | apply below_drew1 | refine below_set ?_ GE167.out | refine below_set ?_ GE168.out) | exact HB.out)⟩⟩
    · rw [if_neg c6] at H
      have c6b0 : (a0_0 == a1_0) = false := beq_eq_false_iff_ne.mpr c6
      have c6b1 : (a0_0 != a1_0) = true := bne_iff_ne.mpr c6
      (first | rw [c6b0] | (simp only [i64_w, i32_w]; rw [c6b0]) | skip)
      have H' := Aside0.mk H
      clear H
      have hnb10 := NB167_168.out
      have hnc10 := NB168_167.out
      have hcz11_0 : w5.cell? ⟨gb167, 0, none⟩ = some (.int .i64 a0_0) := (blk_cell BK167.out 0).trans rfl
      have hcz11_1 : w5.cell? ⟨gb167, 1, none⟩ = some (.slice A0_1 l0_1.length c0_1) := (blk_cell BK167.out 1).trans rfl
      have hfz11_0 := blk_frozen BK167.out 0
      have hfz11_1 := blk_frozen BK167.out 1
      have hcz12_0 : w5.cell? ⟨gb168, 0, none⟩ = some (.int .i64 a1_0) := (blk_cell BK168.out 0).trans rfl
      have hcz12_1 : w5.cell? ⟨gb168, 1, none⟩ = some (.slice A1_1 l1_1.length c1_1) := (blk_cell BK168.out 1).trans rfl
      have hfz12_0 := blk_frozen BK168.out 0
      have hfz12_1 := blk_frozen BK168.out 1
      go_wp2
      go_meet
      case rel => exact ⟨_, (true), (by first | rfl | (simp; done) | (simp [*]; done)), H', ⟨by first | omega | exact Nat.le_refl _⟩, ⟨by (with_reducible repeat (first | refine blk_drewN ?_ _ | refine blk_drew ?_ | refine blk_alloc ?_ _)); exact BK167.out⟩, ⟨by (with_reducible repeat (first | refine blk_drewN ?_ _ | refine blk_drew ?_ | refine blk_alloc ?_ _)); exact BK168.out⟩, ⟨by repeat (first | (with_reducible first | exact HB.out | apply below_alloc | apply pw_below_drewN | apply below_drew1 | refine below_set ?_ GE167.out | refine below_set ?_ GE168.out) | exact HB.out)⟩⟩
  case rest =>
    clear HC3
    try clear c1
    try clear c2
    try clear p2
    try clear c6
    try clear c6b0
    try clear c6b1
    try clear c7
    try clear c10
    try clear hcz11_0
    try clear hcz11_1
    try clear hcz12_0
    try clear hcz12_1
    try clear hcz8_0
    try clear hcz8_1
    try clear hcz9_0
    try clear hcz9_1
    try clear hfz11_0
    try clear hfz11_1
    try clear hfz12_0
    try clear hfz12_1
    try clear hfz8_0
    try clear hfz8_1
    try clear hfz9_0
    try clear hfz9_1
    obtain ⟨kq, x22_2, rfl, HA, HJ2, BK167, BK168, HB⟩ := hcut
    cases kq with
    | zero => exact absurd HA.out (by simp [eddylaw14_sameState.j0])
    | succ kj2 =>
      have H := HA.out
      clear HA
      simp only [eddylaw14_sameState.j0] at H
      by_cases c13 : x22_2 = true
      · subst c13
        have H1 : (some false) = some r := by rw [if_pos rfl] at H; exact H
        clear H
        have H := H1
        clear H1
        obtain rfl := Option.some.inj H
        go_wp2
        go_ret
        exact ⟨by first | rfl | (simp [errW_none, errW_some] <;> rfl) | (simp [*, errW_none, errW_some] <;> rfl), by repeat (first | (with_reducible first | exact HB.out | apply below_alloc | apply pw_below_drewN | apply below_drew1 | refine below_set ?_ GE167.out | refine below_set ?_ GE168.out) | exact HB.out)⟩
      · replace c13 := Bool.eq_false_iff.mpr c13
        subst c13
        have H1 : (eddylaw14_sameState.l0 kj2 0 a0_0 l0_1 a1_0 l1_1) = some r := by rw [if_neg (show ¬ (false = true) by decide)] at H; exact H
        clear H
        have H := H1
        clear H1
        have H' := Aside0.mk H
        clear H
        go_wp2
        go_loopg [5] kj2 (fun kq v5 w' => ∃ (x5_2 : Int), v5 = .int .i64 x5_2 ∧ Aside0 (eddylaw14_sameState.l0 kq x5_2 a0_0 l0_1 a1_0 l1_1 = some r) ∧ Aside0 (kq ≤ kj2) ∧ Aside0 (w'.heap[gb167]? = some (.cells #[.int .i64 a0_0, (.slice A0_1 l0_1.length c0_1)] 36 (0, 0))) ∧ Aside0 (w'.heap[gb168]? = some (.cells #[.int .i64 a1_0, (.slice A1_1 l1_1.length c1_1)] 36 (0, 0))) ∧ Aside0 (Below w.heap.size w w'))
        case atStart => exact ⟨(0), (by first | rfl | (simp; done) | (simp [*]; done)), H', ⟨Nat.le_refl _⟩, ⟨by (with_reducible repeat (first | refine blk_drewN ?_ _ | refine blk_drew ?_ | refine blk_alloc ?_ _)); exact BK167.out⟩, ⟨by (with_reducible repeat (first | refine blk_drewN ?_ _ | refine blk_drew ?_ | refine blk_alloc ?_ _)); exact BK168.out⟩, ⟨by repeat (first | (with_reducible first | exact HB.out | apply below_alloc | apply pw_below_drewN | apply below_drew1 | refine below_set ?_ GE167.out | refine below_set ?_ GE168.out) | exact HB.out)⟩⟩
        case round =>
          clear H'
          try clear c1
          try clear c2
          try clear p2
          try clear c6
          try clear c6b0
          try clear c6b1
          try clear c7
          try clear c10
          try clear c13
          try clear hcz11_0
          try clear hcz11_1
          try clear hcz12_0
          try clear hcz12_1
          try clear hcz8_0
          try clear hcz8_1
          try clear hcz9_0
          try clear hcz9_1
          try clear hfz11_0
          try clear hfz11_1
          try clear hfz12_0
          try clear hfz12_1
          try clear hfz8_0
          try clear hfz8_1
          try clear hfz9_0
          try clear hfz9_1
          try clear p2
          obtain ⟨x5_2, rfl, HA, HK2, BK167, BK168, HB⟩ := hrel
          cases gk with
          | zero => exact absurd HA.out (by simp [eddylaw14_sameState.l0])
          | succ k2 =>
            have H := HA.out
            clear HA
            simp only [eddylaw14_sameState.l0] at H
            by_cases c14 : x5_2 < (l0_1.length : Int)
            · rw [if_pos c14] at H
              have c14b0 : decide (x5_2 < (l0_1.length : Int)) = true := decide_eq_true c14
              clear c14
              by_cases c15 : 0 ≤ x5_2
              · rw [if_pos c15] at H
                have c15b0 : decide (0 ≤ x5_2) = true := decide_eq_true c15
                clear c15
                by_cases c16 : x5_2 < (l1_1.length : Int)
                · rw [if_pos c16] at H
                  have c16b0 : decide (x5_2 < (l1_1.length : Int)) = true := decide_eq_true c16
                  clear c16
                  have HC17 := Aside0.mk H
                  clear H
                  have hnb18 := NB167_168.out
                  have hnc18 := NB168_167.out
                  have hcz19_0 : wr.cell? ⟨gb167, 0, none⟩ = some (.int .i64 a0_0) := (blk_cell BK167.out 0).trans rfl
                  have hcz19_1 : wr.cell? ⟨gb167, 1, none⟩ = some (.slice A0_1 l0_1.length c0_1) := (blk_cell BK167.out 1).trans rfl
                  have hfz19_0 := blk_frozen BK167.out 0
                  have hfz19_1 := blk_frozen BK167.out 1
                  try go_wp2
                  have n0_ := Aside0.mk (blk_drew BK167.out)
                  have n1_ := Aside0.mk (blk_drew BK168.out)
                  have n2_ := Aside0.mk (below_drew1 HB.out)
                  clear BK167
                  clear BK168
                  clear HB
                  have BK167 := n0_
                  have BK168 := n1_
                  have HB := n2_
                  clear n0_ n1_ n2_
                  have p169 : 0 ≤ (x5_2 : Int) := of_decide_eq_true (by first | (with_reducible assumption) | assumption)
                  have q169 : x5_2 < (l0_1.length : Int) := of_decide_eq_true (by first | (with_reducible assumption) | assumption)
                  obtain ⟨ad169, A169_1, c169_1, e169, hx169_0, hx169_1, hl169_1, hi169_1⟩ := at_T103 HR0_1.out x5_2 p169 q169
                  have hw169_1 := hx169_1
                  have hw169_0 := hx169_0
                  cases e169
                  replace hx169_0 := (HB.out.cell (World.block_lt_of_cell? w _ hx169_0)).trans hx169_0
                  replace hx169_1 := (HB.out.cell (World.block_lt_of_cell? w _ hx169_1)).trans hx169_1
                  have HR169_1 := Aside0.mk hi169_1
                  have HC169_1 := Aside0.mk hl169_1
                  clear hi169_1 hl169_1
                  replace p169 := eq_true p169
                  replace q169 := eq_true q169
                  have p170 : 0 ≤ (x5_2 : Int) := of_decide_eq_true (by first | (with_reducible assumption) | assumption)
                  have q170 : x5_2 < (l1_1.length : Int) := of_decide_eq_true (by first | (with_reducible assumption) | assumption)
                  obtain ⟨ad170, A170_1, c170_1, e170, hx170_0, hx170_1, hl170_1, hi170_1⟩ := at_T103 HR1_1.out x5_2 p170 q170
                  have hw170_1 := hx170_1
                  have hw170_0 := hx170_0
                  cases e170
                  replace hx170_0 := (HB.out.cell (World.block_lt_of_cell? w _ hx170_0)).trans hx170_0
                  replace hx170_1 := (HB.out.cell (World.block_lt_of_cell? w _ hx170_1)).trans hx170_1
                  have HR170_1 := Aside0.mk hi170_1
                  have HC170_1 := Aside0.mk hl170_1
                  clear hi170_1 hl170_1
                  replace p170 := eq_true p170
                  replace q170 := eq_true q170
                  refine start_ (n := 14) (S := fun w' => w'.cell? ⟨gb167, 0, none⟩ = some (.int .i64 a0_0) ∧ w'.cell? ⟨gb167, 1, none⟩ = some (.slice (some ad169) l0_1.length c0_1) ∧ w'.cell? ⟨gb168, 0, none⟩ = some (.int .i64 a1_0) ∧ w'.cell? ⟨gb168, 1, none⟩ = some (.slice (some ad170) l1_1.length c1_1) ∧ w'.cell? (ad169.add ((x5_2).toNat * 2)) = some (.string ((rd_T103 l0_1 x5_2).f0)) ∧ w'.cell? ⟨(ad169.add ((x5_2).toNat * 2)).block, (ad169.add ((x5_2).toNat * 2)).off + 1, none⟩ = some (.slice A169_1 ((rd_T103 l0_1 x5_2).f1).length c169_1) ∧ w'.cell? (ad170.add ((x5_2).toNat * 2)) = some (.string ((rd_T103 l1_1 x5_2).f0)) ∧ w'.cell? ⟨(ad170.add ((x5_2).toNat * 2)).block, (ad170.add ((x5_2).toNat * 2)).off + 1, none⟩ = some (.slice A170_1 ((rd_T103 l1_1 x5_2).f1).length c170_1)) (ds := []) #[false, false, false, false, false, false, false, false, false, false, false, false, false, false] (by kernel_rfl) rfl rfl ⟨(blk_cell BK167.out 0).trans rfl, (blk_cell BK167.out 1).trans rfl, (blk_cell BK168.out 0).trans rfl, (blk_cell BK168.out 1).trans rfl, ((HB.out.cell (World.block_lt_of_cell? w _ hw169_0)).trans hw169_0), ((HB.out.cell (World.block_lt_of_cell? w _ hw169_1)).trans hw169_1), ((HB.out.cell (World.block_lt_of_cell? w _ hw170_0)).trans hw170_0), ((HB.out.cell (World.block_lt_of_cell? w _ hw170_1)).trans hw170_1)⟩ (fun hHeld => ?_); refine with_tabW eddylaw14_sameState.tab6 eddylaw14_sameState.bits6 (fun HT_ HW_ => ?_)
                  generalize wr.drew = w20 at BK167 BK168 HB HR169_1 HR170_1 hx169_0 hx169_1 hx170_0 hx170_1 hHeld ⊢
                  refine pure_ (i := 0) (N := some 30) (v := ?_) (a' := ?_) #[true, false, false, false, false, false, false, false, false, false, false, false, false, false] rfl rfl (any_of HT_.out (by kernel_rfl)) (fun _ _ _ h => h) (Or.inl ⟨by rfl, ?_⟩) ?_ ?_
                  rotate_left
                  · intro w'
                    go_simp
                    with_reducible rfl
                  rotate_left
                  · simp only [Act.put, List.setIfInBounds_toArray, List.set_cons_zero, List.set_cons_succ, i64_w, i32_w]
                    rfl
                  refine pure_ (i := 2) (N := some 32) (v := ?_) (a' := ?_) #[true, false, true, false, false, false, false, false, false, false, false, false, false, false] rfl rfl (any_of HT_.out (by kernel_rfl)) (fun _ _ _ h => h) (Or.inl ⟨by rfl, ?_⟩) ?_ ?_
                  rotate_left
                  · intro w'
                    go_simp
                    with_reducible rfl
                  rotate_left
                  · simp only [Act.put, List.setIfInBounds_toArray, List.set_cons_zero, List.set_cons_succ, i64_w, i32_w]
                    rfl
                  refine pure_ (i := 5) (N := some 35) (v := ?_) (a' := ?_) #[true, false, true, false, false, true, false, false, false, false, false, false, false, false] rfl rfl (any_of HT_.out (by kernel_rfl)) (fun _ _ _ h => h) (Or.inl ⟨by rfl, ?_⟩) ?_ ?_
                  rotate_left
                  · intro w'
                    go_simp
                    with_reducible rfl
                  rotate_left
                  · simp only [Act.put, List.setIfInBounds_toArray, List.set_cons_zero, List.set_cons_succ, i64_w, i32_w]
                    rfl
                  refine pure_ (i := 7) (N := some 37) (v := ?_) (a' := ?_) #[true, false, true, false, false, true, false, true, false, false, false, false, false, false] rfl rfl (any_of HT_.out (by kernel_rfl)) (fun _ _ _ h => h) (Or.inl ⟨by rfl, ?_⟩) ?_ ?_
                  rotate_left
                  · intro w'
                    go_simp
                    with_reducible rfl
                  rotate_left
                  · simp only [Act.put, List.setIfInBounds_toArray, List.set_cons_zero, List.set_cons_succ, i64_w, i32_w]
                    rfl
                  refine take_ (i := 1) (N := some 31) (v := ?_) (a' := ?_) #[true, true, true, false, false, true, false, true, false, false, false, false, false, false] rfl rfl (take_ofW HT_.out HW_.out (by kernel_rfl)) (fun _ _ _ h => h) (Or.inl ⟨by rfl, ?_⟩) hHeld ?_ ?_
                  rotate_left
                  · rintro w' ⟨s0, s1, s2, s3, s4, s5, s6, s7⟩
                    go_simp
                    with_reducible rfl
                  rotate_left
                  · simp only [Act.put, List.setIfInBounds_toArray, List.set_cons_zero, List.set_cons_succ, i64_w, i32_w]
                    rfl
                  refine pure_ (i := 3) (N := some 33) (v := ?_) (a' := ?_) #[true, true, true, true, false, true, false, true, false, false, false, false, false, false] rfl rfl (any_of HT_.out (by kernel_rfl)) (fun _ _ _ h => h) (Or.inl ⟨by rfl, ?_⟩) ?_ ?_
                  rotate_left
                  · intro w'
                    go_simp
                    with_reducible rfl
                  rotate_left
                  · simp only [Act.put, List.setIfInBounds_toArray, List.set_cons_zero, List.set_cons_succ, i64_w, i32_w]
                    rfl
                  refine take_ (i := 4) (N := some 34) (v := ?_) (a' := ?_) #[true, true, true, true, true, true, false, true, false, false, false, false, false, false] rfl rfl (take_ofW HT_.out HW_.out (by kernel_rfl)) (fun _ _ _ h => h) (Or.inl ⟨by rfl, ?_⟩) hHeld ?_ ?_
                  rotate_left
                  · rintro w' ⟨s0, s1, s2, s3, s4, s5, s6, s7⟩
                    go_simp
                    with_reducible rfl
                  rotate_left
                  · simp only [Act.put, List.setIfInBounds_toArray, List.set_cons_zero, List.set_cons_succ, i64_w, i32_w]
                    rfl
                  refine take_ (i := 6) (N := some 36) (v := ?_) (a' := ?_) #[true, true, true, true, true, true, true, true, false, false, false, false, false, false] rfl rfl (take_ofW HT_.out HW_.out (by kernel_rfl)) (fun _ _ _ h => h) (Or.inl ⟨by rfl, ?_⟩) hHeld ?_ ?_
                  rotate_left
                  · rintro w' ⟨s0, s1, s2, s3, s4, s5, s6, s7⟩
                    go_simp
                    with_reducible rfl
                  rotate_left
                  · simp only [Act.put, List.setIfInBounds_toArray, List.set_cons_zero, List.set_cons_succ, i64_w, i32_w]
                    rfl
                  refine pure_ (i := 8) (N := some 38) (v := ?_) (a' := ?_) #[true, true, true, true, true, true, true, true, true, false, false, false, false, false] rfl rfl (any_of HT_.out (by kernel_rfl)) (fun _ _ _ h => h) (Or.inl ⟨by rfl, ?_⟩) ?_ ?_
                  rotate_left
                  · intro w'
                    go_simp
                    with_reducible rfl
                  rotate_left
                  · simp only [Act.put, List.setIfInBounds_toArray, List.set_cons_zero, List.set_cons_succ, i64_w, i32_w]
                    rfl
                  refine take_ (i := 9) (N := some 39) (v := ?_) (a' := ?_) #[true, true, true, true, true, true, true, true, true, true, false, false, false, false] rfl rfl (take_ofW HT_.out HW_.out (by kernel_rfl)) (fun _ _ _ h => h) (Or.inl ⟨by rfl, ?_⟩) hHeld ?_ ?_
                  rotate_left
                  · rintro w' ⟨s0, s1, s2, s3, s4, s5, s6, s7⟩
                    go_simp
                    with_reducible rfl
                  rotate_left
                  · simp only [Act.put, List.setIfInBounds_toArray, List.set_cons_zero, List.set_cons_succ, i64_w, i32_w]
                    rfl
                  refine join_ (σ := Nat × Nat) 2 #[true, true, true, true, true, true, true, true, true, true, true, true, false, false] (fun s_ => [(6, .pointer (some ⟨s_.1, 0, none⟩)), (7, .pointer (some ⟨s_.2, 0, none⟩))]) (fun s_ w' => (w'.cell? ⟨gb167, 0, none⟩ = some (.int .i64 a0_0) ∧ w'.cell? ⟨gb167, 1, none⟩ = some (.slice (some ad169) l0_1.length c0_1) ∧ w'.cell? ⟨gb168, 0, none⟩ = some (.int .i64 a1_0) ∧ w'.cell? ⟨gb168, 1, none⟩ = some (.slice (some ad170) l1_1.length c1_1) ∧ w'.cell? (ad169.add ((x5_2).toNat * 2)) = some (.string ((rd_T103 l0_1 x5_2).f0)) ∧ w'.cell? ⟨(ad169.add ((x5_2).toNat * 2)).block, (ad169.add ((x5_2).toNat * 2)).off + 1, none⟩ = some (.slice A169_1 ((rd_T103 l0_1 x5_2).f1).length c169_1) ∧ w'.cell? (ad170.add ((x5_2).toNat * 2)) = some (.string ((rd_T103 l1_1 x5_2).f0)) ∧ w'.cell? ⟨(ad170.add ((x5_2).toNat * 2)).block, (ad170.add ((x5_2).toNat * 2)).off + 1, none⟩ = some (.slice A170_1 ((rd_T103 l1_1 x5_2).f1).length c170_1)) ∧ (w'.heap[gb167]? = some (.cells #[.int .i64 a0_0, .slice (some ad169) l0_1.length c0_1] 36 (0, 0))) ∧ (w'.heap[gb168]? = some (.cells #[.int .i64 a1_0, .slice (some ad170) l1_1.length c1_1] 36 (0, 0))) ∧ (w'.heap[s_.1]? = some (.cells #[.string (⟨#[]⟩ : ByteArray), .slice none 0 0] 103 (0, 0))) ∧ (w'.heap[s_.2]? = some (.cells #[.string (⟨#[]⟩ : ByteArray), .slice none 0 0] 103 (0, 0))) ∧ (w.heap.size ≤ s_.1) ∧ (w.heap.size ≤ s_.1) ∧ (gb167 ≠ s_.1) ∧ (s_.1 ≠ gb167) ∧ (gb168 ≠ s_.1) ∧ (s_.1 ≠ gb168) ∧ (s_.2 ≠ s_.1) ∧ (s_.1 ≠ s_.2) ∧ (w.heap.size ≤ s_.2) ∧ (w.heap.size ≤ s_.2) ∧ (gb167 ≠ s_.2) ∧ (s_.2 ≠ gb167) ∧ (gb168 ≠ s_.2) ∧ (s_.2 ≠ gb168) ∧ (Below w.heap.size w w')) ?_ ?_
                  rotate_left
                  · intro hCont
                    refine two_ (i := 10) (j := 11) (Ni := some 6) (Nj := some 7) #[true, true, true, true, true, true, true, true, true, true, true, false, false, false] #[true, true, true, true, true, true, true, true, true, true, false, true, false, false] rfl rfl rfl rfl (two_of HT_.out (by kernel_rfl)) (by decide) (by decide) (fun K hK => ?_) (fun K hK => ?_)
                    · skip
                      refine box_step ?hg (N := 6) ?hd (cs := #[.string (⟨#[]⟩ : ByteArray), .slice none 0 0]) (t := 103) ?hr ?_; (case hd => rfl); (case hg => rfl); (case hr => first | (go_simp; done) | (go_simp; rfl))
                      intro gb171 hg w21 hbox hb
                      have n0_ := Aside0.mk (blk_below (g := gb167) (o := .cells #[.int .i64 a0_0, .slice (some ad169) l0_1.length c0_1] 36 (0, 0)) (by (with_reducible repeat (first | refine blk_drewN ?_ _ | refine blk_drew ?_ | refine blk_alloc ?_ _)); exact BK167.out) hb)
                      have n1_ := Aside0.mk (blk_below (g := gb168) (o := .cells #[.int .i64 a1_0, .slice (some ad170) l1_1.length c1_1] 36 (0, 0)) (by (with_reducible repeat (first | refine blk_drewN ?_ _ | refine blk_drew ?_ | refine blk_alloc ?_ _)); exact BK168.out) hb)
                      have n2_ := Aside0.mk (below_step (by repeat (first | (with_reducible first | exact HB.out | apply below_alloc | apply pw_below_drewN | apply below_drew1 | refine below_set ?_ GE167.out | refine below_set ?_ GE168.out) | exact HB.out)) hb)
                      have n3_ := Aside0.mk (hbox)
                      have n4_ := Aside0.mk ((by rw [hg]; exact (below_size (by repeat (first | (with_reducible first | exact HB.out | apply below_alloc | apply pw_below_drewN | apply below_drew1 | refine below_set ?_ GE167.out | refine below_set ?_ GE168.out) | exact HB.out))) : w.heap.size ≤ gb171))
                      have n5_ := Aside0.mk ((by rw [hg]; exact (below_size (by repeat (first | (with_reducible first | exact HB.out | apply below_alloc | apply pw_below_drewN | apply below_drew1 | refine below_set ?_ GE167.out | refine below_set ?_ GE168.out) | exact HB.out))) : w.heap.size ≤ gb171))
                      have n6_ := Aside0.mk ((by rw [hg]; exact Nat.ne_of_lt (blk_lt (g := gb167) (o := .cells #[.int .i64 a0_0, .slice (some ad169) l0_1.length c0_1] 36 (0, 0)) (by (with_reducible repeat (first | refine blk_drewN ?_ _ | refine blk_drew ?_ | refine blk_alloc ?_ _)); exact BK167.out)) : gb167 ≠ gb171))
                      have n7_ := Aside0.mk ((by rw [hg]; exact Nat.ne_of_gt (blk_lt (g := gb167) (o := .cells #[.int .i64 a0_0, .slice (some ad169) l0_1.length c0_1] 36 (0, 0)) (by (with_reducible repeat (first | refine blk_drewN ?_ _ | refine blk_drew ?_ | refine blk_alloc ?_ _)); exact BK167.out)) : gb171 ≠ gb167))
                      have n8_ := Aside0.mk ((by rw [hg]; exact Nat.ne_of_lt (blk_lt (g := gb168) (o := .cells #[.int .i64 a1_0, .slice (some ad170) l1_1.length c1_1] 36 (0, 0)) (by (with_reducible repeat (first | refine blk_drewN ?_ _ | refine blk_drew ?_ | refine blk_alloc ?_ _)); exact BK168.out)) : gb168 ≠ gb171))
                      have n9_ := Aside0.mk ((by rw [hg]; exact Nat.ne_of_gt (blk_lt (g := gb168) (o := .cells #[.int .i64 a1_0, .slice (some ad170) l1_1.length c1_1] 36 (0, 0)) (by (with_reducible repeat (first | refine blk_drewN ?_ _ | refine blk_drew ?_ | refine blk_alloc ?_ _)); exact BK168.out)) : gb171 ≠ gb168))
                      clear BK167
                      clear BK168
                      clear HB
                      have BK167 := n0_
                      have BK168 := n1_
                      have HB := n2_
                      have BK171 := n3_
                      have GW171 := n4_
                      have GE171 := n5_
                      have NB167_171 := n6_
                      have NB171_167 := n7_
                      have NB168_171 := n8_
                      have NB171_168 := n9_
                      clear n0_ n1_ n2_ n3_ n4_ n5_ n6_ n7_ n8_ n9_
                      clear hb hbox hg
                      refine hK.out _ _ ⟨(blk_cell BK167.out 0).trans rfl, (blk_cell BK167.out 1).trans rfl, (blk_cell BK168.out 0).trans rfl, (blk_cell BK168.out 1).trans rfl, ((HB.out.cell (World.block_lt_of_cell? w _ hw169_0)).trans hw169_0), ((HB.out.cell (World.block_lt_of_cell? w _ hw169_1)).trans hw169_1), ((HB.out.cell (World.block_lt_of_cell? w _ hw170_0)).trans hw170_0), ((HB.out.cell (World.block_lt_of_cell? w _ hw170_1)).trans hw170_1)⟩ (fun hHeld => ?_)
                      clear hK K
                      refine norm_ (a' := ?_) ?_ ?_
                      rotate_left
                      · show Act.put _ (some 6) _ = _
                        simp only [Act.put, List.setIfInBounds_toArray, List.set_cons_zero, List.set_cons_succ, i64_w, i32_w]
                        rfl
                      refine one_ (i := 11) (N := some 7) #[true, true, true, true, true, true, true, true, true, true, true, true, false, false] rfl rfl (one_of HT_.out (by kernel_rfl)) (by decide) (fun K hK => ?_)
                      refine box_step ?hg (N := 7) ?hd (cs := #[.string (⟨#[]⟩ : ByteArray), .slice none 0 0]) (t := 103) ?hr ?_; (case hd => rfl); (case hg => rfl); (case hr => first | (go_simp; done) | (go_simp; rfl))
                      intro gb172 hg w22 hbox hb
                      have n0_ := Aside0.mk (blk_below (g := gb167) (o := .cells #[.int .i64 a0_0, .slice (some ad169) l0_1.length c0_1] 36 (0, 0)) (by (with_reducible repeat (first | refine blk_drewN ?_ _ | refine blk_drew ?_ | refine blk_alloc ?_ _)); exact BK167.out) hb)
                      have n1_ := Aside0.mk (blk_below (g := gb168) (o := .cells #[.int .i64 a1_0, .slice (some ad170) l1_1.length c1_1] 36 (0, 0)) (by (with_reducible repeat (first | refine blk_drewN ?_ _ | refine blk_drew ?_ | refine blk_alloc ?_ _)); exact BK168.out) hb)
                      have n2_ := Aside0.mk (blk_below (g := gb171) (o := .cells #[.string (⟨#[]⟩ : ByteArray), .slice none 0 0] 103 (0, 0)) (by (with_reducible repeat (first | refine blk_drewN ?_ _ | refine blk_drew ?_ | refine blk_alloc ?_ _)); exact BK171.out) hb)
                      have n3_ := Aside0.mk (below_step (by repeat (first | (with_reducible first | exact HB.out | apply below_alloc | apply pw_below_drewN | apply below_drew1 | refine below_set ?_ GE167.out | refine below_set ?_ GE168.out | refine below_set ?_ GE171.out) | exact HB.out)) hb)
                      have n4_ := Aside0.mk (hbox)
                      have n5_ := Aside0.mk ((by rw [hg]; exact (below_size (by repeat (first | (with_reducible first | exact HB.out | apply below_alloc | apply pw_below_drewN | apply below_drew1 | refine below_set ?_ GE167.out | refine below_set ?_ GE168.out | refine below_set ?_ GE171.out) | exact HB.out))) : w.heap.size ≤ gb172))
                      have n6_ := Aside0.mk ((by rw [hg]; exact (below_size (by repeat (first | (with_reducible first | exact HB.out | apply below_alloc | apply pw_below_drewN | apply below_drew1 | refine below_set ?_ GE167.out | refine below_set ?_ GE168.out | refine below_set ?_ GE171.out) | exact HB.out))) : w.heap.size ≤ gb172))
                      have n7_ := Aside0.mk ((by rw [hg]; exact Nat.ne_of_lt (blk_lt (g := gb167) (o := .cells #[.int .i64 a0_0, .slice (some ad169) l0_1.length c0_1] 36 (0, 0)) (by (with_reducible repeat (first | refine blk_drewN ?_ _ | refine blk_drew ?_ | refine blk_alloc ?_ _)); exact BK167.out)) : gb167 ≠ gb172))
                      have n8_ := Aside0.mk ((by rw [hg]; exact Nat.ne_of_gt (blk_lt (g := gb167) (o := .cells #[.int .i64 a0_0, .slice (some ad169) l0_1.length c0_1] 36 (0, 0)) (by (with_reducible repeat (first | refine blk_drewN ?_ _ | refine blk_drew ?_ | refine blk_alloc ?_ _)); exact BK167.out)) : gb172 ≠ gb167))
                      have n9_ := Aside0.mk ((by rw [hg]; exact Nat.ne_of_lt (blk_lt (g := gb168) (o := .cells #[.int .i64 a1_0, .slice (some ad170) l1_1.length c1_1] 36 (0, 0)) (by (with_reducible repeat (first | refine blk_drewN ?_ _ | refine blk_drew ?_ | refine blk_alloc ?_ _)); exact BK168.out)) : gb168 ≠ gb172))
                      have n10_ := Aside0.mk ((by rw [hg]; exact Nat.ne_of_gt (blk_lt (g := gb168) (o := .cells #[.int .i64 a1_0, .slice (some ad170) l1_1.length c1_1] 36 (0, 0)) (by (with_reducible repeat (first | refine blk_drewN ?_ _ | refine blk_drew ?_ | refine blk_alloc ?_ _)); exact BK168.out)) : gb172 ≠ gb168))
                      have n11_ := Aside0.mk ((by rw [hg]; exact Nat.ne_of_lt (blk_lt (g := gb171) (o := .cells #[.string (⟨#[]⟩ : ByteArray), .slice none 0 0] 103 (0, 0)) (by (with_reducible repeat (first | refine blk_drewN ?_ _ | refine blk_drew ?_ | refine blk_alloc ?_ _)); exact BK171.out)) : gb171 ≠ gb172))
                      have n12_ := Aside0.mk ((by rw [hg]; exact Nat.ne_of_gt (blk_lt (g := gb171) (o := .cells #[.string (⟨#[]⟩ : ByteArray), .slice none 0 0] 103 (0, 0)) (by (with_reducible repeat (first | refine blk_drewN ?_ _ | refine blk_drew ?_ | refine blk_alloc ?_ _)); exact BK171.out)) : gb172 ≠ gb171))
                      clear BK167
                      clear BK168
                      clear BK171
                      clear HB
                      have BK167 := n0_
                      have BK168 := n1_
                      have BK171 := n2_
                      have HB := n3_
                      have BK172 := n4_
                      have GW172 := n5_
                      have GE172 := n6_
                      have NB167_172 := n7_
                      have NB172_167 := n8_
                      have NB168_172 := n9_
                      have NB172_168 := n10_
                      have NB171_172 := n11_
                      have NB172_171 := n12_
                      clear n0_ n1_ n2_ n3_ n4_ n5_ n6_ n7_ n8_ n9_ n10_ n11_ n12_
                      clear hb hbox hg
                      refine hK.out _ _ ⟨(blk_cell BK167.out 0).trans rfl, (blk_cell BK167.out 1).trans rfl, (blk_cell BK168.out 0).trans rfl, (blk_cell BK168.out 1).trans rfl, ((HB.out.cell (World.block_lt_of_cell? w _ hw169_0)).trans hw169_0), ((HB.out.cell (World.block_lt_of_cell? w _ hw169_1)).trans hw169_1), ((HB.out.cell (World.block_lt_of_cell? w _ hw170_0)).trans hw170_0), ((HB.out.cell (World.block_lt_of_cell? w _ hw170_1)).trans hw170_1)⟩ (fun hHeld => ?_)
                      clear hK K
                      refine norm_ (a' := ?_) ?_ ?_
                      rotate_left
                      · show Act.put _ (some 7) _ = _
                        simp only [Act.put, List.setIfInBounds_toArray, List.set_cons_zero, List.set_cons_succ, i64_w, i32_w]
                        rfl
                      exact norm_ (by simp only [putAll, Act.put, List.setIfInBounds_toArray, List.set_cons_zero, List.set_cons_succ]) (hCont (gb171, gb172) _ ⟨hHeld, (by (with_reducible repeat (first | refine blk_drewN ?_ _ | refine blk_drew ?_ | refine blk_alloc ?_ _)); exact BK167.out), (by (with_reducible repeat (first | refine blk_drewN ?_ _ | refine blk_drew ?_ | refine blk_alloc ?_ _)); exact BK168.out), (by (with_reducible repeat (first | refine blk_drewN ?_ _ | refine blk_drew ?_ | refine blk_alloc ?_ _)); exact BK171.out), (by (with_reducible repeat (first | refine blk_drewN ?_ _ | refine blk_drew ?_ | refine blk_alloc ?_ _)); exact BK172.out), GW171.out, GE171.out, NB167_171.out, NB171_167.out, NB168_171.out, NB171_168.out, NB172_171.out, NB171_172.out, GW172.out, GE172.out, NB167_172.out, NB172_167.out, NB168_172.out, NB172_168.out, (by repeat (first | (with_reducible first | exact HB.out | apply below_alloc | apply pw_below_drewN | apply below_drew1 | refine below_set ?_ GE167.out | refine below_set ?_ GE168.out | refine below_set ?_ GE171.out | refine below_set ?_ GE172.out) | exact HB.out))⟩)
                    · skip
                      refine box_step ?hg (N := 7) ?hd (cs := #[.string (⟨#[]⟩ : ByteArray), .slice none 0 0]) (t := 103) ?hr ?_; (case hd => rfl); (case hg => rfl); (case hr => first | (go_simp; done) | (go_simp; rfl))
                      intro gb172 hg w21 hbox hb
                      have n0_ := Aside0.mk (blk_below (g := gb167) (o := .cells #[.int .i64 a0_0, .slice (some ad169) l0_1.length c0_1] 36 (0, 0)) (by (with_reducible repeat (first | refine blk_drewN ?_ _ | refine blk_drew ?_ | refine blk_alloc ?_ _)); exact BK167.out) hb)
                      have n1_ := Aside0.mk (blk_below (g := gb168) (o := .cells #[.int .i64 a1_0, .slice (some ad170) l1_1.length c1_1] 36 (0, 0)) (by (with_reducible repeat (first | refine blk_drewN ?_ _ | refine blk_drew ?_ | refine blk_alloc ?_ _)); exact BK168.out) hb)
                      have n2_ := Aside0.mk (below_step (by repeat (first | (with_reducible first | exact HB.out | apply below_alloc | apply pw_below_drewN | apply below_drew1 | refine below_set ?_ GE167.out | refine below_set ?_ GE168.out) | exact HB.out)) hb)
                      have n3_ := Aside0.mk (hbox)
                      have n4_ := Aside0.mk ((by rw [hg]; exact (below_size (by repeat (first | (with_reducible first | exact HB.out | apply below_alloc | apply pw_below_drewN | apply below_drew1 | refine below_set ?_ GE167.out | refine below_set ?_ GE168.out) | exact HB.out))) : w.heap.size ≤ gb172))
                      have n5_ := Aside0.mk ((by rw [hg]; exact (below_size (by repeat (first | (with_reducible first | exact HB.out | apply below_alloc | apply pw_below_drewN | apply below_drew1 | refine below_set ?_ GE167.out | refine below_set ?_ GE168.out) | exact HB.out))) : w.heap.size ≤ gb172))
                      have n6_ := Aside0.mk ((by rw [hg]; exact Nat.ne_of_lt (blk_lt (g := gb167) (o := .cells #[.int .i64 a0_0, .slice (some ad169) l0_1.length c0_1] 36 (0, 0)) (by (with_reducible repeat (first | refine blk_drewN ?_ _ | refine blk_drew ?_ | refine blk_alloc ?_ _)); exact BK167.out)) : gb167 ≠ gb172))
                      have n7_ := Aside0.mk ((by rw [hg]; exact Nat.ne_of_gt (blk_lt (g := gb167) (o := .cells #[.int .i64 a0_0, .slice (some ad169) l0_1.length c0_1] 36 (0, 0)) (by (with_reducible repeat (first | refine blk_drewN ?_ _ | refine blk_drew ?_ | refine blk_alloc ?_ _)); exact BK167.out)) : gb172 ≠ gb167))
                      have n8_ := Aside0.mk ((by rw [hg]; exact Nat.ne_of_lt (blk_lt (g := gb168) (o := .cells #[.int .i64 a1_0, .slice (some ad170) l1_1.length c1_1] 36 (0, 0)) (by (with_reducible repeat (first | refine blk_drewN ?_ _ | refine blk_drew ?_ | refine blk_alloc ?_ _)); exact BK168.out)) : gb168 ≠ gb172))
                      have n9_ := Aside0.mk ((by rw [hg]; exact Nat.ne_of_gt (blk_lt (g := gb168) (o := .cells #[.int .i64 a1_0, .slice (some ad170) l1_1.length c1_1] 36 (0, 0)) (by (with_reducible repeat (first | refine blk_drewN ?_ _ | refine blk_drew ?_ | refine blk_alloc ?_ _)); exact BK168.out)) : gb172 ≠ gb168))
                      clear BK167
                      clear BK168
                      clear HB
                      have BK167 := n0_
                      have BK168 := n1_
                      have HB := n2_
                      have BK172 := n3_
                      have GW172 := n4_
                      have GE172 := n5_
                      have NB167_172 := n6_
                      have NB172_167 := n7_
                      have NB168_172 := n8_
                      have NB172_168 := n9_
                      clear n0_ n1_ n2_ n3_ n4_ n5_ n6_ n7_ n8_ n9_
                      clear hb hbox hg
                      refine hK.out _ _ ⟨(blk_cell BK167.out 0).trans rfl, (blk_cell BK167.out 1).trans rfl, (blk_cell BK168.out 0).trans rfl, (blk_cell BK168.out 1).trans rfl, ((HB.out.cell (World.block_lt_of_cell? w _ hw169_0)).trans hw169_0), ((HB.out.cell (World.block_lt_of_cell? w _ hw169_1)).trans hw169_1), ((HB.out.cell (World.block_lt_of_cell? w _ hw170_0)).trans hw170_0), ((HB.out.cell (World.block_lt_of_cell? w _ hw170_1)).trans hw170_1)⟩ (fun hHeld => ?_)
                      clear hK K
                      refine norm_ (a' := ?_) ?_ ?_
                      rotate_left
                      · show Act.put _ (some 7) _ = _
                        simp only [Act.put, List.setIfInBounds_toArray, List.set_cons_zero, List.set_cons_succ, i64_w, i32_w]
                        rfl
                      refine one_ (i := 10) (N := some 6) #[true, true, true, true, true, true, true, true, true, true, true, true, false, false] rfl rfl (one_of HT_.out (by kernel_rfl)) (by decide) (fun K hK => ?_)
                      refine box_step ?hg (N := 6) ?hd (cs := #[.string (⟨#[]⟩ : ByteArray), .slice none 0 0]) (t := 103) ?hr ?_; (case hd => rfl); (case hg => rfl); (case hr => first | (go_simp; done) | (go_simp; rfl))
                      intro gb171 hg w22 hbox hb
                      have n0_ := Aside0.mk (blk_below (g := gb167) (o := .cells #[.int .i64 a0_0, .slice (some ad169) l0_1.length c0_1] 36 (0, 0)) (by (with_reducible repeat (first | refine blk_drewN ?_ _ | refine blk_drew ?_ | refine blk_alloc ?_ _)); exact BK167.out) hb)
                      have n1_ := Aside0.mk (blk_below (g := gb168) (o := .cells #[.int .i64 a1_0, .slice (some ad170) l1_1.length c1_1] 36 (0, 0)) (by (with_reducible repeat (first | refine blk_drewN ?_ _ | refine blk_drew ?_ | refine blk_alloc ?_ _)); exact BK168.out) hb)
                      have n2_ := Aside0.mk (blk_below (g := gb172) (o := .cells #[.string (⟨#[]⟩ : ByteArray), .slice none 0 0] 103 (0, 0)) (by (with_reducible repeat (first | refine blk_drewN ?_ _ | refine blk_drew ?_ | refine blk_alloc ?_ _)); exact BK172.out) hb)
                      have n3_ := Aside0.mk (below_step (by repeat (first | (with_reducible first | exact HB.out | apply below_alloc | apply pw_below_drewN | apply below_drew1 | refine below_set ?_ GE167.out | refine below_set ?_ GE168.out | refine below_set ?_ GE172.out) | exact HB.out)) hb)
                      have n4_ := Aside0.mk (hbox)
                      have n5_ := Aside0.mk ((by rw [hg]; exact (below_size (by repeat (first | (with_reducible first | exact HB.out | apply below_alloc | apply pw_below_drewN | apply below_drew1 | refine below_set ?_ GE167.out | refine below_set ?_ GE168.out | refine below_set ?_ GE172.out) | exact HB.out))) : w.heap.size ≤ gb171))
                      have n6_ := Aside0.mk ((by rw [hg]; exact (below_size (by repeat (first | (with_reducible first | exact HB.out | apply below_alloc | apply pw_below_drewN | apply below_drew1 | refine below_set ?_ GE167.out | refine below_set ?_ GE168.out | refine below_set ?_ GE172.out) | exact HB.out))) : w.heap.size ≤ gb171))
                      have n7_ := Aside0.mk ((by rw [hg]; exact Nat.ne_of_lt (blk_lt (g := gb167) (o := .cells #[.int .i64 a0_0, .slice (some ad169) l0_1.length c0_1] 36 (0, 0)) (by (with_reducible repeat (first | refine blk_drewN ?_ _ | refine blk_drew ?_ | refine blk_alloc ?_ _)); exact BK167.out)) : gb167 ≠ gb171))
                      have n8_ := Aside0.mk ((by rw [hg]; exact Nat.ne_of_gt (blk_lt (g := gb167) (o := .cells #[.int .i64 a0_0, .slice (some ad169) l0_1.length c0_1] 36 (0, 0)) (by (with_reducible repeat (first | refine blk_drewN ?_ _ | refine blk_drew ?_ | refine blk_alloc ?_ _)); exact BK167.out)) : gb171 ≠ gb167))
                      have n9_ := Aside0.mk ((by rw [hg]; exact Nat.ne_of_lt (blk_lt (g := gb168) (o := .cells #[.int .i64 a1_0, .slice (some ad170) l1_1.length c1_1] 36 (0, 0)) (by (with_reducible repeat (first | refine blk_drewN ?_ _ | refine blk_drew ?_ | refine blk_alloc ?_ _)); exact BK168.out)) : gb168 ≠ gb171))
                      have n10_ := Aside0.mk ((by rw [hg]; exact Nat.ne_of_gt (blk_lt (g := gb168) (o := .cells #[.int .i64 a1_0, .slice (some ad170) l1_1.length c1_1] 36 (0, 0)) (by (with_reducible repeat (first | refine blk_drewN ?_ _ | refine blk_drew ?_ | refine blk_alloc ?_ _)); exact BK168.out)) : gb171 ≠ gb168))
                      have n11_ := Aside0.mk ((by rw [hg]; exact Nat.ne_of_lt (blk_lt (g := gb172) (o := .cells #[.string (⟨#[]⟩ : ByteArray), .slice none 0 0] 103 (0, 0)) (by (with_reducible repeat (first | refine blk_drewN ?_ _ | refine blk_drew ?_ | refine blk_alloc ?_ _)); exact BK172.out)) : gb172 ≠ gb171))
                      have n12_ := Aside0.mk ((by rw [hg]; exact Nat.ne_of_gt (blk_lt (g := gb172) (o := .cells #[.string (⟨#[]⟩ : ByteArray), .slice none 0 0] 103 (0, 0)) (by (with_reducible repeat (first | refine blk_drewN ?_ _ | refine blk_drew ?_ | refine blk_alloc ?_ _)); exact BK172.out)) : gb171 ≠ gb172))
                      clear BK167
                      clear BK168
                      clear BK172
                      clear HB
                      have BK167 := n0_
                      have BK168 := n1_
                      have BK172 := n2_
                      have HB := n3_
                      have BK171 := n4_
                      have GW171 := n5_
                      have GE171 := n6_
                      have NB167_171 := n7_
                      have NB171_167 := n8_
                      have NB168_171 := n9_
                      have NB171_168 := n10_
                      have NB172_171 := n11_
                      have NB171_172 := n12_
                      clear n0_ n1_ n2_ n3_ n4_ n5_ n6_ n7_ n8_ n9_ n10_ n11_ n12_
                      clear hb hbox hg
                      refine hK.out _ _ ⟨(blk_cell BK167.out 0).trans rfl, (blk_cell BK167.out 1).trans rfl, (blk_cell BK168.out 0).trans rfl, (blk_cell BK168.out 1).trans rfl, ((HB.out.cell (World.block_lt_of_cell? w _ hw169_0)).trans hw169_0), ((HB.out.cell (World.block_lt_of_cell? w _ hw169_1)).trans hw169_1), ((HB.out.cell (World.block_lt_of_cell? w _ hw170_0)).trans hw170_0), ((HB.out.cell (World.block_lt_of_cell? w _ hw170_1)).trans hw170_1)⟩ (fun hHeld => ?_)
                      clear hK K
                      refine norm_ (a' := ?_) ?_ ?_
                      rotate_left
                      · show Act.put _ (some 6) _ = _
                        simp only [Act.put, List.setIfInBounds_toArray, List.set_cons_zero, List.set_cons_succ, i64_w, i32_w]
                        rfl
                      exact norm_ (by simp only [putAll, Act.put, List.setIfInBounds_toArray, List.set_cons_zero, List.set_cons_succ]) (hCont (gb171, gb172) _ ⟨hHeld, (by (with_reducible repeat (first | refine blk_drewN ?_ _ | refine blk_drew ?_ | refine blk_alloc ?_ _)); exact BK167.out), (by (with_reducible repeat (first | refine blk_drewN ?_ _ | refine blk_drew ?_ | refine blk_alloc ?_ _)); exact BK168.out), (by (with_reducible repeat (first | refine blk_drewN ?_ _ | refine blk_drew ?_ | refine blk_alloc ?_ _)); exact BK171.out), (by (with_reducible repeat (first | refine blk_drewN ?_ _ | refine blk_drew ?_ | refine blk_alloc ?_ _)); exact BK172.out), GW171.out, GE171.out, NB167_171.out, NB171_167.out, NB168_171.out, NB171_168.out, NB172_171.out, NB171_172.out, GW172.out, GE172.out, NB167_172.out, NB172_167.out, NB168_172.out, NB172_168.out, (by repeat (first | (with_reducible first | exact HB.out | apply below_alloc | apply pw_below_drewN | apply below_drew1 | refine below_set ?_ GE167.out | refine below_set ?_ GE168.out | refine below_set ?_ GE172.out | refine below_set ?_ GE171.out) | exact HB.out))⟩)
                  rintro ⟨gb171, gb172⟩ w23 ⟨hS_, h0_, h1_, h2_, h3_, h4_, h5_, h6_, h7_, h8_, h9_, h10_, h11_, h12_, h13_, h14_, h15_, h16_, h17_, h18_⟩
                  have n0_ : Aside0 (w23.heap[gb167]? = some (.cells #[.int .i64 a0_0, .slice (some ad169) l0_1.length c0_1] 36 (0, 0))) := ⟨h0_⟩
                  have n1_ : Aside0 (w23.heap[gb168]? = some (.cells #[.int .i64 a1_0, .slice (some ad170) l1_1.length c1_1] 36 (0, 0))) := ⟨h1_⟩
                  have n2_ : Aside0 (w23.heap[gb171]? = some (.cells #[.string (⟨#[]⟩ : ByteArray), .slice none 0 0] 103 (0, 0))) := ⟨h2_⟩
                  have n3_ : Aside0 (w23.heap[gb172]? = some (.cells #[.string (⟨#[]⟩ : ByteArray), .slice none 0 0] 103 (0, 0))) := ⟨h3_⟩
                  have n4_ : Aside0 (w.heap.size ≤ gb171) := ⟨h4_⟩
                  have n5_ : Aside0 (w.heap.size ≤ gb171) := ⟨h5_⟩
                  have n6_ : Aside0 (gb167 ≠ gb171) := ⟨h6_⟩
                  have n7_ : Aside0 (gb171 ≠ gb167) := ⟨h7_⟩
                  have n8_ : Aside0 (gb168 ≠ gb171) := ⟨h8_⟩
                  have n9_ : Aside0 (gb171 ≠ gb168) := ⟨h9_⟩
                  have n10_ : Aside0 (gb172 ≠ gb171) := ⟨h10_⟩
                  have n11_ : Aside0 (gb171 ≠ gb172) := ⟨h11_⟩
                  have n12_ : Aside0 (w.heap.size ≤ gb172) := ⟨h12_⟩
                  have n13_ : Aside0 (w.heap.size ≤ gb172) := ⟨h13_⟩
                  have n14_ : Aside0 (gb167 ≠ gb172) := ⟨h14_⟩
                  have n15_ : Aside0 (gb172 ≠ gb167) := ⟨h15_⟩
                  have n16_ : Aside0 (gb168 ≠ gb172) := ⟨h16_⟩
                  have n17_ : Aside0 (gb172 ≠ gb168) := ⟨h17_⟩
                  have n18_ : Aside0 (Below w.heap.size w w23) := ⟨h18_⟩
                  clear BK167
                  clear BK168
                  clear HB
                  clear h0_ h1_ h2_ h3_ h4_ h5_ h6_ h7_ h8_ h9_ h10_ h11_ h12_ h13_ h14_ h15_ h16_ h17_ h18_
                  have BK167 := n0_
                  have BK168 := n1_
                  have BK171 := n2_
                  have BK172 := n3_
                  have GW171 := n4_
                  have GE171 := n5_
                  have NB167_171 := n6_
                  have NB171_167 := n7_
                  have NB168_171 := n8_
                  have NB171_168 := n9_
                  have NB172_171 := n10_
                  have NB171_172 := n11_
                  have GW172 := n12_
                  have GE172 := n13_
                  have NB167_172 := n14_
                  have NB172_167 := n15_
                  have NB168_172 := n16_
                  have NB172_168 := n17_
                  have HB := n18_
                  clear n0_ n1_ n2_ n3_ n4_ n5_ n6_ n7_ n8_ n9_ n10_ n11_ n12_ n13_ n14_ n15_ n16_ n17_ n18_
                  have hHeld : w23.cell? ⟨gb167, 0, none⟩ = some (.int .i64 a0_0) ∧ w23.cell? ⟨gb167, 1, none⟩ = some (.slice (some ad169) l0_1.length c0_1) ∧ w23.cell? ⟨gb168, 0, none⟩ = some (.int .i64 a1_0) ∧ w23.cell? ⟨gb168, 1, none⟩ = some (.slice (some ad170) l1_1.length c1_1) ∧ w23.cell? (ad169.add ((x5_2).toNat * 2)) = some (.string ((rd_T103 l0_1 x5_2).f0)) ∧ w23.cell? ⟨(ad169.add ((x5_2).toNat * 2)).block, (ad169.add ((x5_2).toNat * 2)).off + 1, none⟩ = some (.slice A169_1 ((rd_T103 l0_1 x5_2).f1).length c169_1) ∧ w23.cell? (ad170.add ((x5_2).toNat * 2)) = some (.string ((rd_T103 l1_1 x5_2).f0)) ∧ w23.cell? ⟨(ad170.add ((x5_2).toNat * 2)).block, (ad170.add ((x5_2).toNat * 2)).off + 1, none⟩ = some (.slice A170_1 ((rd_T103 l1_1 x5_2).f1).length c170_1) := hS_
                  refine norm_ (a' := ?_) ?_ ?_
                  rotate_left
                  · simp only [putAll, Act.put, List.setIfInBounds_toArray, List.set_cons_zero, List.set_cons_succ]
                    rfl
                  refine one_ (i := 12) (N := none) #[true, true, true, true, true, true, true, true, true, true, true, true, true, false] rfl rfl (one_of HT_.out (by kernel_rfl)) (by decide) (fun K hK => ?_)
                  have hs24 : w23.cell? ⟨gb171, 0, none⟩ = some (.string (⟨#[]⟩ : ByteArray)) := (blk_cell BK171.out 0).trans rfl
                  have hfs24 := blk_frozen BK171.out 0
                  have hns24_0 := NB167_171.out
                  have hns24_1 := NB168_171.out
                  have hns24_3 := NB172_171.out
                  have hms24_0 := NB171_167.out
                  have hms24_1 := NB171_168.out
                  have hms24_3 := NB171_172.out
                  have hs25 : w23.cell? ⟨gb171, 1, none⟩ = some (.slice none 0 0) := (blk_cell BK171.out 1).trans rfl
                  have hfs25 := blk_frozen BK171.out 1
                  have hns25_0 := NB167_171.out
                  have hns25_1 := NB168_171.out
                  have hns25_3 := NB172_171.out
                  have hms25_0 := NB171_167.out
                  have hms25_1 := NB171_168.out
                  have hms25_3 := NB171_172.out
                  refine skip_ (w1 := ?_) (by rfl) rfl ?_ ?_
                  rotate_left
                  · go_simp
                    rfl
                  refine hK.out _ _ ⟨((cell_far (p := ⟨gb171, _, none⟩) NB167_171.out _).trans (((cell_far (p := ⟨gb171, _, none⟩) NB167_171.out _).trans (hHeld.1)))), ((cell_far (p := ⟨gb171, _, none⟩) NB167_171.out _).trans (((cell_far (p := ⟨gb171, _, none⟩) NB167_171.out _).trans (hHeld.2.1)))), ((cell_far (p := ⟨gb171, _, none⟩) NB168_171.out _).trans (((cell_far (p := ⟨gb171, _, none⟩) NB168_171.out _).trans (hHeld.2.2.1)))), ((cell_far (p := ⟨gb171, _, none⟩) NB168_171.out _).trans (((cell_far (p := ⟨gb171, _, none⟩) NB168_171.out _).trans (hHeld.2.2.2.1)))), ((cell_far (p := ⟨gb171, _, none⟩) (by first | exact Nat.ne_of_lt (Nat.lt_of_lt_of_le (by have := World.block_lt_of_cell? _ _ hw169_0; first | rwa [add_block] at this | exact this) GW171.out) | (rw [add_block]; exact Nat.ne_of_lt (Nat.lt_of_lt_of_le (by have := World.block_lt_of_cell? _ _ hw169_0; first | rwa [add_block] at this | exact this) GW171.out)) | (show (Addr.add _ _).block ≠ _; rw [add_block]; exact Nat.ne_of_lt (Nat.lt_of_lt_of_le (by have := World.block_lt_of_cell? _ _ hw169_0; first | rwa [add_block] at this | exact this) GW171.out)) | (dsimp only; exact Nat.ne_of_lt (Nat.lt_of_lt_of_le (by have := World.block_lt_of_cell? _ _ hw169_0; first | rwa [add_block] at this | exact this) GW171.out))) _).trans (((cell_far (p := ⟨gb171, _, none⟩) (by first | exact Nat.ne_of_lt (Nat.lt_of_lt_of_le (by have := World.block_lt_of_cell? _ _ hw169_0; first | rwa [add_block] at this | exact this) GW171.out) | (rw [add_block]; exact Nat.ne_of_lt (Nat.lt_of_lt_of_le (by have := World.block_lt_of_cell? _ _ hw169_0; first | rwa [add_block] at this | exact this) GW171.out)) | (show (Addr.add _ _).block ≠ _; rw [add_block]; exact Nat.ne_of_lt (Nat.lt_of_lt_of_le (by have := World.block_lt_of_cell? _ _ hw169_0; first | rwa [add_block] at this | exact this) GW171.out)) | (dsimp only; exact Nat.ne_of_lt (Nat.lt_of_lt_of_le (by have := World.block_lt_of_cell? _ _ hw169_0; first | rwa [add_block] at this | exact this) GW171.out))) _).trans (hHeld.2.2.2.2.1)))), ((cell_far (p := ⟨gb171, _, none⟩) (by first | exact Nat.ne_of_lt (Nat.lt_of_lt_of_le (by have := World.block_lt_of_cell? _ _ hw169_1; first | rwa [add_block] at this | exact this) GW171.out) | (rw [add_block]; exact Nat.ne_of_lt (Nat.lt_of_lt_of_le (by have := World.block_lt_of_cell? _ _ hw169_1; first | rwa [add_block] at this | exact this) GW171.out)) | (show (Addr.add _ _).block ≠ _; rw [add_block]; exact Nat.ne_of_lt (Nat.lt_of_lt_of_le (by have := World.block_lt_of_cell? _ _ hw169_1; first | rwa [add_block] at this | exact this) GW171.out)) | (dsimp only; exact Nat.ne_of_lt (Nat.lt_of_lt_of_le (by have := World.block_lt_of_cell? _ _ hw169_1; first | rwa [add_block] at this | exact this) GW171.out))) _).trans (((cell_far (p := ⟨gb171, _, none⟩) (by first | exact Nat.ne_of_lt (Nat.lt_of_lt_of_le (by have := World.block_lt_of_cell? _ _ hw169_1; first | rwa [add_block] at this | exact this) GW171.out) | (rw [add_block]; exact Nat.ne_of_lt (Nat.lt_of_lt_of_le (by have := World.block_lt_of_cell? _ _ hw169_1; first | rwa [add_block] at this | exact this) GW171.out)) | (show (Addr.add _ _).block ≠ _; rw [add_block]; exact Nat.ne_of_lt (Nat.lt_of_lt_of_le (by have := World.block_lt_of_cell? _ _ hw169_1; first | rwa [add_block] at this | exact this) GW171.out)) | (dsimp only; exact Nat.ne_of_lt (Nat.lt_of_lt_of_le (by have := World.block_lt_of_cell? _ _ hw169_1; first | rwa [add_block] at this | exact this) GW171.out))) _).trans (hHeld.2.2.2.2.2.1)))), ((cell_far (p := ⟨gb171, _, none⟩) (by first | exact Nat.ne_of_lt (Nat.lt_of_lt_of_le (by have := World.block_lt_of_cell? _ _ hw170_0; first | rwa [add_block] at this | exact this) GW171.out) | (rw [add_block]; exact Nat.ne_of_lt (Nat.lt_of_lt_of_le (by have := World.block_lt_of_cell? _ _ hw170_0; first | rwa [add_block] at this | exact this) GW171.out)) | (show (Addr.add _ _).block ≠ _; rw [add_block]; exact Nat.ne_of_lt (Nat.lt_of_lt_of_le (by have := World.block_lt_of_cell? _ _ hw170_0; first | rwa [add_block] at this | exact this) GW171.out)) | (dsimp only; exact Nat.ne_of_lt (Nat.lt_of_lt_of_le (by have := World.block_lt_of_cell? _ _ hw170_0; first | rwa [add_block] at this | exact this) GW171.out))) _).trans (((cell_far (p := ⟨gb171, _, none⟩) (by first | exact Nat.ne_of_lt (Nat.lt_of_lt_of_le (by have := World.block_lt_of_cell? _ _ hw170_0; first | rwa [add_block] at this | exact this) GW171.out) | (rw [add_block]; exact Nat.ne_of_lt (Nat.lt_of_lt_of_le (by have := World.block_lt_of_cell? _ _ hw170_0; first | rwa [add_block] at this | exact this) GW171.out)) | (show (Addr.add _ _).block ≠ _; rw [add_block]; exact Nat.ne_of_lt (Nat.lt_of_lt_of_le (by have := World.block_lt_of_cell? _ _ hw170_0; first | rwa [add_block] at this | exact this) GW171.out)) | (dsimp only; exact Nat.ne_of_lt (Nat.lt_of_lt_of_le (by have := World.block_lt_of_cell? _ _ hw170_0; first | rwa [add_block] at this | exact this) GW171.out))) _).trans (hHeld.2.2.2.2.2.2.1)))), ((cell_far (p := ⟨gb171, _, none⟩) (by first | exact Nat.ne_of_lt (Nat.lt_of_lt_of_le (by have := World.block_lt_of_cell? _ _ hw170_1; first | rwa [add_block] at this | exact this) GW171.out) | (rw [add_block]; exact Nat.ne_of_lt (Nat.lt_of_lt_of_le (by have := World.block_lt_of_cell? _ _ hw170_1; first | rwa [add_block] at this | exact this) GW171.out)) | (show (Addr.add _ _).block ≠ _; rw [add_block]; exact Nat.ne_of_lt (Nat.lt_of_lt_of_le (by have := World.block_lt_of_cell? _ _ hw170_1; first | rwa [add_block] at this | exact this) GW171.out)) | (dsimp only; exact Nat.ne_of_lt (Nat.lt_of_lt_of_le (by have := World.block_lt_of_cell? _ _ hw170_1; first | rwa [add_block] at this | exact this) GW171.out))) _).trans (((cell_far (p := ⟨gb171, _, none⟩) (by first | exact Nat.ne_of_lt (Nat.lt_of_lt_of_le (by have := World.block_lt_of_cell? _ _ hw170_1; first | rwa [add_block] at this | exact this) GW171.out) | (rw [add_block]; exact Nat.ne_of_lt (Nat.lt_of_lt_of_le (by have := World.block_lt_of_cell? _ _ hw170_1; first | rwa [add_block] at this | exact this) GW171.out)) | (show (Addr.add _ _).block ≠ _; rw [add_block]; exact Nat.ne_of_lt (Nat.lt_of_lt_of_le (by have := World.block_lt_of_cell? _ _ hw170_1; first | rwa [add_block] at this | exact this) GW171.out)) | (dsimp only; exact Nat.ne_of_lt (Nat.lt_of_lt_of_le (by have := World.block_lt_of_cell? _ _ hw170_1; first | rwa [add_block] at this | exact this) GW171.out))) _).trans (hHeld.2.2.2.2.2.2.2))))⟩ (fun hHeld => ?_)
                  clear hK K
                  refine one_ (i := 13) (N := none) #[true, true, true, true, true, true, true, true, true, true, true, true, true, true] rfl rfl (one_of HT_.out (by kernel_rfl)) (by decide) (fun K hK => ?_)
                  have hs26 : w23.cell? ⟨gb172, 0, none⟩ = some (.string (⟨#[]⟩ : ByteArray)) := (blk_cell BK172.out 0).trans rfl
                  have hfs26 := blk_frozen BK172.out 0
                  have hns26_0 := NB167_172.out
                  have hns26_1 := NB168_172.out
                  have hns26_2 := NB171_172.out
                  have hms26_0 := NB172_167.out
                  have hms26_1 := NB172_168.out
                  have hms26_2 := NB172_171.out
                  have hs27 : w23.cell? ⟨gb172, 1, none⟩ = some (.slice none 0 0) := (blk_cell BK172.out 1).trans rfl
                  have hfs27 := blk_frozen BK172.out 1
                  have hns27_0 := NB167_172.out
                  have hns27_1 := NB168_172.out
                  have hns27_2 := NB171_172.out
                  have hms27_0 := NB172_167.out
                  have hms27_1 := NB172_168.out
                  have hms27_2 := NB172_171.out
                  refine skip_ (w1 := ?_) (by rfl) rfl ?_ ?_
                  rotate_left
                  · go_simp
                    rfl
                  refine hK.out _ _ ⟨((cell_far (p := ⟨gb172, _, none⟩) NB167_172.out _).trans (((cell_far (p := ⟨gb172, _, none⟩) NB167_172.out _).trans (hHeld.1)))), ((cell_far (p := ⟨gb172, _, none⟩) NB167_172.out _).trans (((cell_far (p := ⟨gb172, _, none⟩) NB167_172.out _).trans (hHeld.2.1)))), ((cell_far (p := ⟨gb172, _, none⟩) NB168_172.out _).trans (((cell_far (p := ⟨gb172, _, none⟩) NB168_172.out _).trans (hHeld.2.2.1)))), ((cell_far (p := ⟨gb172, _, none⟩) NB168_172.out _).trans (((cell_far (p := ⟨gb172, _, none⟩) NB168_172.out _).trans (hHeld.2.2.2.1)))), ((cell_far (p := ⟨gb172, _, none⟩) (by first | exact Nat.ne_of_lt (Nat.lt_of_lt_of_le (by have := World.block_lt_of_cell? _ _ hw169_0; first | rwa [add_block] at this | exact this) GW172.out) | (rw [add_block]; exact Nat.ne_of_lt (Nat.lt_of_lt_of_le (by have := World.block_lt_of_cell? _ _ hw169_0; first | rwa [add_block] at this | exact this) GW172.out)) | (show (Addr.add _ _).block ≠ _; rw [add_block]; exact Nat.ne_of_lt (Nat.lt_of_lt_of_le (by have := World.block_lt_of_cell? _ _ hw169_0; first | rwa [add_block] at this | exact this) GW172.out)) | (dsimp only; exact Nat.ne_of_lt (Nat.lt_of_lt_of_le (by have := World.block_lt_of_cell? _ _ hw169_0; first | rwa [add_block] at this | exact this) GW172.out))) _).trans (((cell_far (p := ⟨gb172, _, none⟩) (by first | exact Nat.ne_of_lt (Nat.lt_of_lt_of_le (by have := World.block_lt_of_cell? _ _ hw169_0; first | rwa [add_block] at this | exact this) GW172.out) | (rw [add_block]; exact Nat.ne_of_lt (Nat.lt_of_lt_of_le (by have := World.block_lt_of_cell? _ _ hw169_0; first | rwa [add_block] at this | exact this) GW172.out)) | (show (Addr.add _ _).block ≠ _; rw [add_block]; exact Nat.ne_of_lt (Nat.lt_of_lt_of_le (by have := World.block_lt_of_cell? _ _ hw169_0; first | rwa [add_block] at this | exact this) GW172.out)) | (dsimp only; exact Nat.ne_of_lt (Nat.lt_of_lt_of_le (by have := World.block_lt_of_cell? _ _ hw169_0; first | rwa [add_block] at this | exact this) GW172.out))) _).trans (hHeld.2.2.2.2.1)))), ((cell_far (p := ⟨gb172, _, none⟩) (by first | exact Nat.ne_of_lt (Nat.lt_of_lt_of_le (by have := World.block_lt_of_cell? _ _ hw169_1; first | rwa [add_block] at this | exact this) GW172.out) | (rw [add_block]; exact Nat.ne_of_lt (Nat.lt_of_lt_of_le (by have := World.block_lt_of_cell? _ _ hw169_1; first | rwa [add_block] at this | exact this) GW172.out)) | (show (Addr.add _ _).block ≠ _; rw [add_block]; exact Nat.ne_of_lt (Nat.lt_of_lt_of_le (by have := World.block_lt_of_cell? _ _ hw169_1; first | rwa [add_block] at this | exact this) GW172.out)) | (dsimp only; exact Nat.ne_of_lt (Nat.lt_of_lt_of_le (by have := World.block_lt_of_cell? _ _ hw169_1; first | rwa [add_block] at this | exact this) GW172.out))) _).trans (((cell_far (p := ⟨gb172, _, none⟩) (by first | exact Nat.ne_of_lt (Nat.lt_of_lt_of_le (by have := World.block_lt_of_cell? _ _ hw169_1; first | rwa [add_block] at this | exact this) GW172.out) | (rw [add_block]; exact Nat.ne_of_lt (Nat.lt_of_lt_of_le (by have := World.block_lt_of_cell? _ _ hw169_1; first | rwa [add_block] at this | exact this) GW172.out)) | (show (Addr.add _ _).block ≠ _; rw [add_block]; exact Nat.ne_of_lt (Nat.lt_of_lt_of_le (by have := World.block_lt_of_cell? _ _ hw169_1; first | rwa [add_block] at this | exact this) GW172.out)) | (dsimp only; exact Nat.ne_of_lt (Nat.lt_of_lt_of_le (by have := World.block_lt_of_cell? _ _ hw169_1; first | rwa [add_block] at this | exact this) GW172.out))) _).trans (hHeld.2.2.2.2.2.1)))), ((cell_far (p := ⟨gb172, _, none⟩) (by first | exact Nat.ne_of_lt (Nat.lt_of_lt_of_le (by have := World.block_lt_of_cell? _ _ hw170_0; first | rwa [add_block] at this | exact this) GW172.out) | (rw [add_block]; exact Nat.ne_of_lt (Nat.lt_of_lt_of_le (by have := World.block_lt_of_cell? _ _ hw170_0; first | rwa [add_block] at this | exact this) GW172.out)) | (show (Addr.add _ _).block ≠ _; rw [add_block]; exact Nat.ne_of_lt (Nat.lt_of_lt_of_le (by have := World.block_lt_of_cell? _ _ hw170_0; first | rwa [add_block] at this | exact this) GW172.out)) | (dsimp only; exact Nat.ne_of_lt (Nat.lt_of_lt_of_le (by have := World.block_lt_of_cell? _ _ hw170_0; first | rwa [add_block] at this | exact this) GW172.out))) _).trans (((cell_far (p := ⟨gb172, _, none⟩) (by first | exact Nat.ne_of_lt (Nat.lt_of_lt_of_le (by have := World.block_lt_of_cell? _ _ hw170_0; first | rwa [add_block] at this | exact this) GW172.out) | (rw [add_block]; exact Nat.ne_of_lt (Nat.lt_of_lt_of_le (by have := World.block_lt_of_cell? _ _ hw170_0; first | rwa [add_block] at this | exact this) GW172.out)) | (show (Addr.add _ _).block ≠ _; rw [add_block]; exact Nat.ne_of_lt (Nat.lt_of_lt_of_le (by have := World.block_lt_of_cell? _ _ hw170_0; first | rwa [add_block] at this | exact this) GW172.out)) | (dsimp only; exact Nat.ne_of_lt (Nat.lt_of_lt_of_le (by have := World.block_lt_of_cell? _ _ hw170_0; first | rwa [add_block] at this | exact this) GW172.out))) _).trans (hHeld.2.2.2.2.2.2.1)))), ((cell_far (p := ⟨gb172, _, none⟩) (by first | exact Nat.ne_of_lt (Nat.lt_of_lt_of_le (by have := World.block_lt_of_cell? _ _ hw170_1; first | rwa [add_block] at this | exact this) GW172.out) | (rw [add_block]; exact Nat.ne_of_lt (Nat.lt_of_lt_of_le (by have := World.block_lt_of_cell? _ _ hw170_1; first | rwa [add_block] at this | exact this) GW172.out)) | (show (Addr.add _ _).block ≠ _; rw [add_block]; exact Nat.ne_of_lt (Nat.lt_of_lt_of_le (by have := World.block_lt_of_cell? _ _ hw170_1; first | rwa [add_block] at this | exact this) GW172.out)) | (dsimp only; exact Nat.ne_of_lt (Nat.lt_of_lt_of_le (by have := World.block_lt_of_cell? _ _ hw170_1; first | rwa [add_block] at this | exact this) GW172.out))) _).trans (((cell_far (p := ⟨gb172, _, none⟩) (by first | exact Nat.ne_of_lt (Nat.lt_of_lt_of_le (by have := World.block_lt_of_cell? _ _ hw170_1; first | rwa [add_block] at this | exact this) GW172.out) | (rw [add_block]; exact Nat.ne_of_lt (Nat.lt_of_lt_of_le (by have := World.block_lt_of_cell? _ _ hw170_1; first | rwa [add_block] at this | exact this) GW172.out)) | (show (Addr.add _ _).block ≠ _; rw [add_block]; exact Nat.ne_of_lt (Nat.lt_of_lt_of_le (by have := World.block_lt_of_cell? _ _ hw170_1; first | rwa [add_block] at this | exact this) GW172.out)) | (dsimp only; exact Nat.ne_of_lt (Nat.lt_of_lt_of_le (by have := World.block_lt_of_cell? _ _ hw170_1; first | rwa [add_block] at this | exact this) GW172.out))) _).trans (hHeld.2.2.2.2.2.2.2))))⟩ (fun hHeld => ?_)
                  clear hK K
                  refine done_ (done_of HT_.out (by kernel_rfl)) ?_
                  go_upto_region 7 with (fail)
                  go_cut [53] (fun v53 wc => ∃ (kq : Nat) (x53_16 : Bool), v53 = .bool x53_16 ∧ Aside0 (eddylaw14_sameState.j2 kq x5_2 x53_16 a0_0 l0_1 a1_0 l1_1 ((rd_T103 l0_1 x5_2).f0) ((rd_T103 l0_1 x5_2).f1) ((rd_T103 l1_1 x5_2).f0) ((rd_T103 l1_1 x5_2).f1) = some r) ∧ Aside0 (kq ≤ k2) ∧ Aside0 (wc.heap[gb167]? = some (.cells #[.int .i64 a0_0, (.slice (some ad169) l0_1.length c0_1)] 36 (0, 0))) ∧ Aside0 (wc.heap[gb168]? = some (.cells #[.int .i64 a1_0, (.slice (some ad170) l1_1.length c1_1)] 36 (0, 0))) ∧ Aside0 (wc.heap[gb171]? = some (.cells #[.string ((rd_T103 l0_1 x5_2).f0), (.slice A169_1 ((rd_T103 l0_1 x5_2).f1).length c169_1)] 103 (0, 0))) ∧ Aside0 (wc.heap[gb172]? = some (.cells #[.string ((rd_T103 l1_1 x5_2).f0), (.slice A170_1 ((rd_T103 l1_1 x5_2).f1).length c170_1)] 103 (0, 0))) ∧ Aside0 (Below w.heap.size w wc))
                  case first =>
                    have H := HC17.out
                    clear HC17
                    by_cases c28 : ((rd_T103 l0_1 x5_2).f0).toList = ((rd_T103 l1_1 x5_2).f0).toList
                    · rw [if_pos c28] at H
                      have c28b0 : (((rd_T103 l0_1 x5_2).f0).toList == ((rd_T103 l1_1 x5_2).f0).toList) = true := beq_iff_eq.mpr c28
                      have c28b1 : (((rd_T103 l0_1 x5_2).f0).toList != ((rd_T103 l1_1 x5_2).f0).toList) = false := bne_eq_false_iff_eq.mpr c28
                      clear c28
                      (first | rw [c28b0] | (simp only [i64_w, i32_w]; rw [c28b0]) | skip)
                      have H' := Aside0.mk H
                      clear H
                      have hnb29 := NB171_167.out
                      have hnc29 := NB167_171.out
                      have hnb30 := NB171_168.out
                      have hnc30 := NB168_171.out
                      have hnb31 := NB171_172.out
                      have hnc31 := NB172_171.out
                      have hcz32_0 : w23.cell? ⟨gb171, 0, none⟩ = some (.string (⟨#[]⟩ : ByteArray)) := (blk_cell BK171.out 0).trans rfl
                      have hcz32_1 : w23.cell? ⟨gb171, 1, none⟩ = some (.slice none 0 0) := (blk_cell BK171.out 1).trans rfl
                      have hfz32_0 := blk_frozen BK171.out 0
                      have hfz32_1 := blk_frozen BK171.out 1
                      have hnb33 := NB172_167.out
                      have hnc33 := NB167_172.out
                      have hnb34 := NB172_168.out
                      have hnc34 := NB168_172.out
                      have hcz35_0 : w23.cell? ⟨gb172, 0, none⟩ = some (.string (⟨#[]⟩ : ByteArray)) := (blk_cell BK172.out 0).trans rfl
                      have hcz35_1 : w23.cell? ⟨gb172, 1, none⟩ = some (.slice none 0 0) := (blk_cell BK172.out 1).trans rfl
                      have hfz35_0 := blk_frozen BK172.out 0
                      have hfz35_1 := blk_frozen BK172.out 1
                      go_wp2
                      go_meet
                      case rel => exact ⟨_, (((((rd_T103 l0_1 x5_2).f1).length : Int) != (((rd_T103 l1_1 x5_2).f1).length : Int))), (by first | rfl | (simp; done) | (simp [*]; done)), H', ⟨by have := HJ2.out; have := HK2.out; first | omega | exact Nat.le_refl _⟩, ⟨by (with_reducible repeat (first | refine blk_drewN ?_ _ | refine blk_drew ?_ | refine blk_alloc ?_ _)); refine blk_far ?_ NB167_172.out _; (with_reducible repeat (first | refine blk_drewN ?_ _ | refine blk_drew ?_ | refine blk_alloc ?_ _)); refine blk_far ?_ NB167_172.out _; (with_reducible repeat (first | refine blk_drewN ?_ _ | refine blk_drew ?_ | refine blk_alloc ?_ _)); refine blk_far ?_ NB167_171.out _; (with_reducible repeat (first | refine blk_drewN ?_ _ | refine blk_drew ?_ | refine blk_alloc ?_ _)); refine blk_far ?_ NB167_171.out _; (with_reducible repeat (first | refine blk_drewN ?_ _ | refine blk_drew ?_ | refine blk_alloc ?_ _)); exact BK167.out⟩, ⟨by (with_reducible repeat (first | refine blk_drewN ?_ _ | refine blk_drew ?_ | refine blk_alloc ?_ _)); refine blk_far ?_ NB168_172.out _; (with_reducible repeat (first | refine blk_drewN ?_ _ | refine blk_drew ?_ | refine blk_alloc ?_ _)); refine blk_far ?_ NB168_172.out _; (with_reducible repeat (first | refine blk_drewN ?_ _ | refine blk_drew ?_ | refine blk_alloc ?_ _)); refine blk_far ?_ NB168_171.out _; (with_reducible repeat (first | refine blk_drewN ?_ _ | refine blk_drew ?_ | refine blk_alloc ?_ _)); refine blk_far ?_ NB168_171.out _; (with_reducible repeat (first | refine blk_drewN ?_ _ | refine blk_drew ?_ | refine blk_alloc ?_ _)); exact BK168.out⟩, ⟨by (with_reducible repeat (first | refine blk_drewN ?_ _ | refine blk_drew ?_ | refine blk_alloc ?_ _)); refine blk_far ?_ NB171_172.out _; (with_reducible repeat (first | refine blk_drewN ?_ _ | refine blk_drew ?_ | refine blk_alloc ?_ _)); refine blk_far ?_ NB171_172.out _; (with_reducible repeat (first | refine blk_drewN ?_ _ | refine blk_drew ?_ | refine blk_alloc ?_ _)); refine blk_put (cs := #[.string ((rd_T103 l0_1 x5_2).f0), .slice none 0 0]) ?_ 1 _ rfl; (with_reducible repeat (first | refine blk_drewN ?_ _ | refine blk_drew ?_ | refine blk_alloc ?_ _)); refine blk_put (cs := #[.string (⟨#[]⟩ : ByteArray), .slice none 0 0]) ?_ 0 _ rfl; (with_reducible repeat (first | refine blk_drewN ?_ _ | refine blk_drew ?_ | refine blk_alloc ?_ _)); exact BK171.out⟩, ⟨by (with_reducible repeat (first | refine blk_drewN ?_ _ | refine blk_drew ?_ | refine blk_alloc ?_ _)); refine blk_put (cs := #[.string ((rd_T103 l1_1 x5_2).f0), .slice none 0 0]) ?_ 1 _ rfl; (with_reducible repeat (first | refine blk_drewN ?_ _ | refine blk_drew ?_ | refine blk_alloc ?_ _)); refine blk_put (cs := #[.string (⟨#[]⟩ : ByteArray), .slice none 0 0]) ?_ 0 _ rfl; (with_reducible repeat (first | refine blk_drewN ?_ _ | refine blk_drew ?_ | refine blk_alloc ?_ _)); refine blk_far ?_ NB172_171.out _; (with_reducible repeat (first | refine blk_drewN ?_ _ | refine blk_drew ?_ | refine blk_alloc ?_ _)); refine blk_far ?_ NB172_171.out _; (with_reducible repeat (first | refine blk_drewN ?_ _ | refine blk_drew ?_ | refine blk_alloc ?_ _)); exact BK172.out⟩, ⟨by repeat (first | (with_reducible first | exact HB.out | apply below_alloc | apply pw_below_drewN | apply below_drew1 | refine below_set ?_ GE167.out | refine below_set ?_ GE168.out | refine below_set ?_ GE171.out | refine below_set ?_ GE172.out) | exact HB.out)⟩⟩
                    · rw [if_neg c28] at H
                      have c28b0 : (((rd_T103 l0_1 x5_2).f0).toList == ((rd_T103 l1_1 x5_2).f0).toList) = false := beq_eq_false_iff_ne.mpr c28
                      have c28b1 : (((rd_T103 l0_1 x5_2).f0).toList != ((rd_T103 l1_1 x5_2).f0).toList) = true := bne_iff_ne.mpr c28
                      (first | rw [c28b0] | (simp only [i64_w, i32_w]; rw [c28b0]) | skip)
                      have H' := Aside0.mk H
                      clear H
                      have hnb36 := NB171_167.out
                      have hnc36 := NB167_171.out
                      have hnb37 := NB171_168.out
                      have hnc37 := NB168_171.out
                      have hnb38 := NB171_172.out
                      have hnc38 := NB172_171.out
                      have hcz39_0 : w23.cell? ⟨gb171, 0, none⟩ = some (.string (⟨#[]⟩ : ByteArray)) := (blk_cell BK171.out 0).trans rfl
                      have hcz39_1 : w23.cell? ⟨gb171, 1, none⟩ = some (.slice none 0 0) := (blk_cell BK171.out 1).trans rfl
                      have hfz39_0 := blk_frozen BK171.out 0
                      have hfz39_1 := blk_frozen BK171.out 1
                      have hnb40 := NB172_167.out
                      have hnc40 := NB167_172.out
                      have hnb41 := NB172_168.out
                      have hnc41 := NB168_172.out
                      have hcz42_0 : w23.cell? ⟨gb172, 0, none⟩ = some (.string (⟨#[]⟩ : ByteArray)) := (blk_cell BK172.out 0).trans rfl
                      have hcz42_1 : w23.cell? ⟨gb172, 1, none⟩ = some (.slice none 0 0) := (blk_cell BK172.out 1).trans rfl
                      have hfz42_0 := blk_frozen BK172.out 0
                      have hfz42_1 := blk_frozen BK172.out 1
                      go_wp2
                      go_meet
                      case rel => exact ⟨_, (true), (by first | rfl | (simp; done) | (simp [*]; done)), H', ⟨by have := HJ2.out; have := HK2.out; first | omega | exact Nat.le_refl _⟩, ⟨by (with_reducible repeat (first | refine blk_drewN ?_ _ | refine blk_drew ?_ | refine blk_alloc ?_ _)); refine blk_far ?_ NB167_172.out _; (with_reducible repeat (first | refine blk_drewN ?_ _ | refine blk_drew ?_ | refine blk_alloc ?_ _)); refine blk_far ?_ NB167_172.out _; (with_reducible repeat (first | refine blk_drewN ?_ _ | refine blk_drew ?_ | refine blk_alloc ?_ _)); refine blk_far ?_ NB167_171.out _; (with_reducible repeat (first | refine blk_drewN ?_ _ | refine blk_drew ?_ | refine blk_alloc ?_ _)); refine blk_far ?_ NB167_171.out _; (with_reducible repeat (first | refine blk_drewN ?_ _ | refine blk_drew ?_ | refine blk_alloc ?_ _)); exact BK167.out⟩, ⟨by (with_reducible repeat (first | refine blk_drewN ?_ _ | refine blk_drew ?_ | refine blk_alloc ?_ _)); refine blk_far ?_ NB168_172.out _; (with_reducible repeat (first | refine blk_drewN ?_ _ | refine blk_drew ?_ | refine blk_alloc ?_ _)); refine blk_far ?_ NB168_172.out _; (with_reducible repeat (first | refine blk_drewN ?_ _ | refine blk_drew ?_ | refine blk_alloc ?_ _)); refine blk_far ?_ NB168_171.out _; (with_reducible repeat (first | refine blk_drewN ?_ _ | refine blk_drew ?_ | refine blk_alloc ?_ _)); refine blk_far ?_ NB168_171.out _; (with_reducible repeat (first | refine blk_drewN ?_ _ | refine blk_drew ?_ | refine blk_alloc ?_ _)); exact BK168.out⟩, ⟨by (with_reducible repeat (first | refine blk_drewN ?_ _ | refine blk_drew ?_ | refine blk_alloc ?_ _)); refine blk_far ?_ NB171_172.out _; (with_reducible repeat (first | refine blk_drewN ?_ _ | refine blk_drew ?_ | refine blk_alloc ?_ _)); refine blk_far ?_ NB171_172.out _; (with_reducible repeat (first | refine blk_drewN ?_ _ | refine blk_drew ?_ | refine blk_alloc ?_ _)); refine blk_put (cs := #[.string ((rd_T103 l0_1 x5_2).f0), .slice none 0 0]) ?_ 1 _ rfl; (with_reducible repeat (first | refine blk_drewN ?_ _ | refine blk_drew ?_ | refine blk_alloc ?_ _)); refine blk_put (cs := #[.string (⟨#[]⟩ : ByteArray), .slice none 0 0]) ?_ 0 _ rfl; (with_reducible repeat (first | refine blk_drewN ?_ _ | refine blk_drew ?_ | refine blk_alloc ?_ _)); exact BK171.out⟩, ⟨by (with_reducible repeat (first | refine blk_drewN ?_ _ | refine blk_drew ?_ | refine blk_alloc ?_ _)); refine blk_put (cs := #[.string ((rd_T103 l1_1 x5_2).f0), .slice none 0 0]) ?_ 1 _ rfl; (with_reducible repeat (first | refine blk_drewN ?_ _ | refine blk_drew ?_ | refine blk_alloc ?_ _)); refine blk_put (cs := #[.string (⟨#[]⟩ : ByteArray), .slice none 0 0]) ?_ 0 _ rfl; (with_reducible repeat (first | refine blk_drewN ?_ _ | refine blk_drew ?_ | refine blk_alloc ?_ _)); refine blk_far ?_ NB172_171.out _; (with_reducible repeat (first | refine blk_drewN ?_ _ | refine blk_drew ?_ | refine blk_alloc ?_ _)); refine blk_far ?_ NB172_171.out _; (with_reducible repeat (first | refine blk_drewN ?_ _ | refine blk_drew ?_ | refine blk_alloc ?_ _)); exact BK172.out⟩, ⟨by repeat (first | (with_reducible first | exact HB.out | apply below_alloc | apply pw_below_drewN | apply below_drew1 | refine below_set ?_ GE167.out | refine below_set ?_ GE168.out | refine below_set ?_ GE171.out | refine below_set ?_ GE172.out) | exact HB.out)⟩⟩
                  case rest =>
                    clear HC17
                    try clear c1
                    try clear p1
                    try clear q1
                    try clear hx1
                    try clear c2
                    try clear p2
                    try clear c3
                    try clear c4
                    try clear c6
                    try clear c6b0
                    try clear c6b1
                    try clear c7
                    try clear c10
                    try clear c13
                    try clear c14
                    try clear c14b0
                    try clear c15
                    try clear c15b0
                    try clear c16
                    try clear c16b0
                    try clear p16
                    try clear q16
                    try clear hx16
                    try clear c17
                    try clear p17
                    try clear q17
                    try clear hx17
                    try clear c18
                    try clear c28
                    try clear c28b0
                    try clear c28b1
                    try clear c29
                    try clear c30
                    try clear c31
                    try clear c33
                    try clear c34
                    try clear c36
                    try clear c37
                    try clear c38
                    try clear c40
                    try clear c41
                    try clear hcz11_0
                    try clear hcz11_1
                    try clear hcz12_0
                    try clear hcz12_1
                    try clear hcz19_0
                    try clear hcz19_1
                    try clear hcz32_0
                    try clear hcz32_1
                    try clear hcz35_0
                    try clear hcz35_1
                    try clear hcz39_0
                    try clear hcz39_1
                    try clear hcz42_0
                    try clear hcz42_1
                    try clear hcz8_0
                    try clear hcz8_1
                    try clear hcz9_0
                    try clear hcz9_1
                    try clear hfz11_0
                    try clear hfz11_1
                    try clear hfz12_0
                    try clear hfz12_1
                    try clear hfz19_0
                    try clear hfz19_1
                    try clear hfz32_0
                    try clear hfz32_1
                    try clear hfz35_0
                    try clear hfz35_1
                    try clear hfz39_0
                    try clear hfz39_1
                    try clear hfz42_0
                    try clear hfz42_1
                    try clear hfz8_0
                    try clear hfz8_1
                    try clear hfz9_0
                    try clear hfz9_1
                    try clear hx169_0
                    try clear hx169_1
                    try clear hx170_0
                    try clear hx170_1
                    try clear p169
                    try clear p170
                    try clear p2
                    try clear q169
                    try clear q170
                    obtain ⟨kq, x53_16, rfl, HA, HJ16, BK167, BK168, BK171, BK172, HB⟩ := hcut
                    cases kq with
                    | zero => exact absurd HA.out (by simp [eddylaw14_sameState.j2])
                    | succ kj16 =>
                      have H := HA.out
                      clear HA
                      simp only [eddylaw14_sameState.j2] at H
                      by_cases c43 : x53_16 = true
                      · subst c43
                        have H1 : (some false) = some r := by rw [if_pos rfl] at H; exact H
                        clear H
                        have H := H1
                        clear H1
                        obtain rfl := Option.some.inj H
                        go_wp2
                        go_ret
                        exact ⟨by first | rfl | (simp [errW_none, errW_some] <;> rfl) | (simp [*, errW_none, errW_some] <;> rfl), by repeat (first | (with_reducible first | exact HB.out | apply below_alloc | apply pw_below_drewN | apply below_drew1 | refine below_set ?_ GE167.out | refine below_set ?_ GE168.out | refine below_set ?_ GE171.out | refine below_set ?_ GE172.out) | exact HB.out)⟩
                      · replace c43 := Bool.eq_false_iff.mpr c43
                        subst c43
                        have H1 : (eddylaw14_sameState.l1 kj16 x5_2 0 a0_0 l0_1 a1_0 l1_1 ((rd_T103 l0_1 x5_2).f0) ((rd_T103 l0_1 x5_2).f1) ((rd_T103 l1_1 x5_2).f0) ((rd_T103 l1_1 x5_2).f1)) = some r := by rw [if_neg (show ¬ (false = true) by decide)] at H; exact H
                        clear H
                        have H := H1
                        clear H1
                        have H' := Aside0.mk H
                        clear H
                        go_wp2
                        go_loopg [8] kj16 (fun kq v8 w' => ∃ (x8_4 : Int), v8 = .int .i64 x8_4 ∧ Aside0 (eddylaw14_sameState.l1 kq x5_2 x8_4 a0_0 l0_1 a1_0 l1_1 ((rd_T103 l0_1 x5_2).f0) ((rd_T103 l0_1 x5_2).f1) ((rd_T103 l1_1 x5_2).f0) ((rd_T103 l1_1 x5_2).f1) = some r) ∧ Aside0 (kq ≤ kj16) ∧ Aside0 (w'.heap[gb167]? = some (.cells #[.int .i64 a0_0, (.slice (some ad169) l0_1.length c0_1)] 36 (0, 0))) ∧ Aside0 (w'.heap[gb168]? = some (.cells #[.int .i64 a1_0, (.slice (some ad170) l1_1.length c1_1)] 36 (0, 0))) ∧ Aside0 (w'.heap[gb171]? = some (.cells #[.string ((rd_T103 l0_1 x5_2).f0), (.slice A169_1 ((rd_T103 l0_1 x5_2).f1).length c169_1)] 103 (0, 0))) ∧ Aside0 (w'.heap[gb172]? = some (.cells #[.string ((rd_T103 l1_1 x5_2).f0), (.slice A170_1 ((rd_T103 l1_1 x5_2).f1).length c170_1)] 103 (0, 0))) ∧ Aside0 (Below w.heap.size w w'))
                        case atStart => exact ⟨(0), (by first | rfl | (simp; done) | (simp [*]; done)), H', ⟨Nat.le_refl _⟩, ⟨by (with_reducible repeat (first | refine blk_drewN ?_ _ | refine blk_drew ?_ | refine blk_alloc ?_ _)); exact BK167.out⟩, ⟨by (with_reducible repeat (first | refine blk_drewN ?_ _ | refine blk_drew ?_ | refine blk_alloc ?_ _)); exact BK168.out⟩, ⟨by (with_reducible repeat (first | refine blk_drewN ?_ _ | refine blk_drew ?_ | refine blk_alloc ?_ _)); exact BK171.out⟩, ⟨by (with_reducible repeat (first | refine blk_drewN ?_ _ | refine blk_drew ?_ | refine blk_alloc ?_ _)); exact BK172.out⟩, ⟨by repeat (first | (with_reducible first | exact HB.out | apply below_alloc | apply pw_below_drewN | apply below_drew1 | refine below_set ?_ GE167.out | refine below_set ?_ GE168.out | refine below_set ?_ GE171.out | refine below_set ?_ GE172.out) | exact HB.out)⟩⟩
                        case round =>
                          clear H'
                          try clear c1
                          try clear p1
                          try clear q1
                          try clear hx1
                          try clear c2
                          try clear p2
                          try clear c3
                          try clear c4
                          try clear c6
                          try clear c6b0
                          try clear c6b1
                          try clear c7
                          try clear c10
                          try clear c13
                          try clear c14
                          try clear c14b0
                          try clear c15
                          try clear c15b0
                          try clear c16
                          try clear c16b0
                          try clear p16
                          try clear q16
                          try clear hx16
                          try clear c17
                          try clear p17
                          try clear q17
                          try clear hx17
                          try clear c18
                          try clear c28
                          try clear c28b0
                          try clear c28b1
                          try clear c29
                          try clear c30
                          try clear c31
                          try clear c33
                          try clear c34
                          try clear c36
                          try clear c37
                          try clear c38
                          try clear c40
                          try clear c41
                          try clear c43
                          try clear hcz11_0
                          try clear hcz11_1
                          try clear hcz12_0
                          try clear hcz12_1
                          try clear hcz19_0
                          try clear hcz19_1
                          try clear hcz32_0
                          try clear hcz32_1
                          try clear hcz35_0
                          try clear hcz35_1
                          try clear hcz39_0
                          try clear hcz39_1
                          try clear hcz42_0
                          try clear hcz42_1
                          try clear hcz8_0
                          try clear hcz8_1
                          try clear hcz9_0
                          try clear hcz9_1
                          try clear hfz11_0
                          try clear hfz11_1
                          try clear hfz12_0
                          try clear hfz12_1
                          try clear hfz19_0
                          try clear hfz19_1
                          try clear hfz32_0
                          try clear hfz32_1
                          try clear hfz35_0
                          try clear hfz35_1
                          try clear hfz39_0
                          try clear hfz39_1
                          try clear hfz42_0
                          try clear hfz42_1
                          try clear hfz8_0
                          try clear hfz8_1
                          try clear hfz9_0
                          try clear hfz9_1
                          try clear hx169_0
                          try clear hx169_1
                          try clear hx170_0
                          try clear hx170_1
                          try clear p1
                          try clear p16
                          try clear p169
                          try clear p17
                          try clear p170
                          try clear p2
                          try clear q1
                          try clear q16
                          try clear q169
                          try clear q17
                          try clear q170
                          obtain ⟨x8_4, rfl, HA, HK4, BK167, BK168, BK171, BK172, HB⟩ := hrel
                          cases gk with
                          | zero => exact absurd HA.out (by simp [eddylaw14_sameState.l1])
                          | succ k4 =>
                            have H := HA.out
                            clear HA
                            simp only [eddylaw14_sameState.l1] at H
                            by_cases c44 : x8_4 < (((rd_T103 l0_1 x5_2).f1).length : Int)
                            · rw [if_pos c44] at H
                              have c44b0 : decide (x8_4 < (((rd_T103 l0_1 x5_2).f1).length : Int)) = true := decide_eq_true c44
                              clear c44
                              by_cases c45 : 0 ≤ x8_4
                              · rw [if_pos c45] at H
                                have c45b0 : decide (0 ≤ x8_4) = true := decide_eq_true c45
                                clear c45
                                by_cases c46 : x8_4 < (((rd_T103 l1_1 x5_2).f1).length : Int)
                                · rw [if_pos c46] at H
                                  have c46b0 : decide (x8_4 < (((rd_T103 l1_1 x5_2).f1).length : Int)) = true := decide_eq_true c46
                                  clear c46
                                  replace H := Option.bind_eq_some_iff.mp H
                                  obtain ⟨t175, A470, H⟩ := H
                                  replace H : (if t175 = true then (eddylaw14_sameState.l1 k4 x5_2 (wrap64 (x8_4 + 1)) a0_0 l0_1 a1_0 l1_1 ((rd_T103 l0_1 x5_2).f0) ((rd_T103 l0_1 x5_2).f1) ((rd_T103 l1_1 x5_2).f0) ((rd_T103 l1_1 x5_2).f1)) else (some false)) = some r := H
                                  have A47 := Aside0.mk A470
                                  clear A470
                                  by_cases c48 : t175 = true
                                  · subst c48
                                    have H1 : (eddylaw14_sameState.l1 k4 x5_2 (wrap64 (x8_4 + 1)) a0_0 l0_1 a1_0 l1_1 ((rd_T103 l0_1 x5_2).f0) ((rd_T103 l0_1 x5_2).f1) ((rd_T103 l1_1 x5_2).f0) ((rd_T103 l1_1 x5_2).f1)) = some r := by rw [if_pos rfl] at H; exact H
                                    clear H
                                    have H := H1
                                    clear H1
                                    have H' := Aside0.mk H
                                    clear H
                                    have hnb49 := NB171_167.out
                                    have hnc49 := NB167_171.out
                                    have hnb50 := NB171_168.out
                                    have hnc50 := NB168_171.out
                                    have hnb51 := NB171_172.out
                                    have hnc51 := NB172_171.out
                                    have hcz52_0 : wr.cell? ⟨gb171, 0, none⟩ = some (.string ((rd_T103 l0_1 x5_2).f0)) := (blk_cell BK171.out 0).trans rfl
                                    have hcz52_1 : wr.cell? ⟨gb171, 1, none⟩ = some (.slice A169_1 ((rd_T103 l0_1 x5_2).f1).length c169_1) := (blk_cell BK171.out 1).trans rfl
                                    have hfz52_0 := blk_frozen BK171.out 0
                                    have hfz52_1 := blk_frozen BK171.out 1
                                    try go_wp2
                                    have n0_ := Aside0.mk (blk_drew BK167.out)
                                    have n1_ := Aside0.mk (blk_drew BK168.out)
                                    have n2_ := Aside0.mk (blk_drew BK171.out)
                                    have n3_ := Aside0.mk (blk_drew BK172.out)
                                    have n4_ := Aside0.mk (below_drew1 HB.out)
                                    clear BK167
                                    clear BK168
                                    clear BK171
                                    clear BK172
                                    clear HB
                                    have BK167 := n0_
                                    have BK168 := n1_
                                    have BK171 := n2_
                                    have BK172 := n3_
                                    have HB := n4_
                                    clear n0_ n1_ n2_ n3_ n4_
                                    have p173 : 0 ≤ (x8_4 : Int) := of_decide_eq_true (by first | (with_reducible assumption) | assumption)
                                    have q173 : x8_4 < (((rd_T103 l0_1 x5_2).f1).length : Int) := of_decide_eq_true (by first | (with_reducible assumption) | assumption)
                                    obtain ⟨ad173, A173_3, c173_3, e173, hx173_0, hx173_1, hx173_2, hx173_3, hl173_3, hi173_3⟩ := at_T81 HR169_1.out x8_4 p173 q173
                                    have hw173_3 := hx173_3
                                    have hw173_2 := hx173_2
                                    have hw173_1 := hx173_1
                                    have hw173_0 := hx173_0
                                    cases e173
                                    replace hx173_0 := (HB.out.cell (World.block_lt_of_cell? w _ hx173_0)).trans hx173_0
                                    replace hx173_1 := (HB.out.cell (World.block_lt_of_cell? w _ hx173_1)).trans hx173_1
                                    replace hx173_2 := (HB.out.cell (World.block_lt_of_cell? w _ hx173_2)).trans hx173_2
                                    replace hx173_3 := (HB.out.cell (World.block_lt_of_cell? w _ hx173_3)).trans hx173_3
                                    have HR173_3 := Aside0.mk hi173_3
                                    have HC173_3 := Aside0.mk hl173_3
                                    clear hi173_3 hl173_3
                                    replace p173 := eq_true p173
                                    replace q173 := eq_true q173
                                    have p174 : 0 ≤ (x8_4 : Int) := of_decide_eq_true (by first | (with_reducible assumption) | assumption)
                                    have q174 : x8_4 < (((rd_T103 l1_1 x5_2).f1).length : Int) := of_decide_eq_true (by first | (with_reducible assumption) | assumption)
                                    obtain ⟨ad174, A174_3, c174_3, e174, hx174_0, hx174_1, hx174_2, hx174_3, hl174_3, hi174_3⟩ := at_T81 HR170_1.out x8_4 p174 q174
                                    have hw174_3 := hx174_3
                                    have hw174_2 := hx174_2
                                    have hw174_1 := hx174_1
                                    have hw174_0 := hx174_0
                                    cases e174
                                    replace hx174_0 := (HB.out.cell (World.block_lt_of_cell? w _ hx174_0)).trans hx174_0
                                    replace hx174_1 := (HB.out.cell (World.block_lt_of_cell? w _ hx174_1)).trans hx174_1
                                    replace hx174_2 := (HB.out.cell (World.block_lt_of_cell? w _ hx174_2)).trans hx174_2
                                    replace hx174_3 := (HB.out.cell (World.block_lt_of_cell? w _ hx174_3)).trans hx174_3
                                    have HR174_3 := Aside0.mk hi174_3
                                    have HC174_3 := Aside0.mk hl174_3
                                    clear hi174_3 hl174_3
                                    replace p174 := eq_true p174
                                    replace q174 := eq_true q174
                                    refine start_ (n := 12) (S := fun w' => w'.cell? ⟨gb171, 0, none⟩ = some (.string ((rd_T103 l0_1 x5_2).f0)) ∧ w'.cell? ⟨gb171, 1, none⟩ = some (.slice (some ad173) ((rd_T103 l0_1 x5_2).f1).length c169_1) ∧ w'.cell? ⟨gb172, 0, none⟩ = some (.string ((rd_T103 l1_1 x5_2).f0)) ∧ w'.cell? ⟨gb172, 1, none⟩ = some (.slice (some ad174) ((rd_T103 l1_1 x5_2).f1).length c170_1) ∧ w'.cell? (ad173.add ((x8_4).toNat * 4)) = some (.int .i64 ((rd_T81 ((rd_T103 l0_1 x5_2).f1) x8_4).f0)) ∧ w'.cell? ⟨(ad173.add ((x8_4).toNat * 4)).block, (ad173.add ((x8_4).toNat * 4)).off + 1, none⟩ = some (.int .i64 ((rd_T81 ((rd_T103 l0_1 x5_2).f1) x8_4).f1)) ∧ w'.cell? ⟨(ad173.add ((x8_4).toNat * 4)).block, (ad173.add ((x8_4).toNat * 4)).off + 2, none⟩ = some (.string ((rd_T81 ((rd_T103 l0_1 x5_2).f1) x8_4).f2)) ∧ w'.cell? ⟨(ad173.add ((x8_4).toNat * 4)).block, (ad173.add ((x8_4).toNat * 4)).off + 3, none⟩ = some (.slice A173_3 ((rd_T81 ((rd_T103 l0_1 x5_2).f1) x8_4).f3).length c173_3) ∧ w'.cell? (ad174.add ((x8_4).toNat * 4)) = some (.int .i64 ((rd_T81 ((rd_T103 l1_1 x5_2).f1) x8_4).f0)) ∧ w'.cell? ⟨(ad174.add ((x8_4).toNat * 4)).block, (ad174.add ((x8_4).toNat * 4)).off + 1, none⟩ = some (.int .i64 ((rd_T81 ((rd_T103 l1_1 x5_2).f1) x8_4).f1)) ∧ w'.cell? ⟨(ad174.add ((x8_4).toNat * 4)).block, (ad174.add ((x8_4).toNat * 4)).off + 2, none⟩ = some (.string ((rd_T81 ((rd_T103 l1_1 x5_2).f1) x8_4).f2)) ∧ w'.cell? ⟨(ad174.add ((x8_4).toNat * 4)).block, (ad174.add ((x8_4).toNat * 4)).off + 3, none⟩ = some (.slice A174_3 ((rd_T81 ((rd_T103 l1_1 x5_2).f1) x8_4).f3).length c174_3)) (ds := []) #[false, false, false, false, false, false, false, false, false, false, false, false] (by kernel_rfl) rfl rfl ⟨(blk_cell BK171.out 0).trans rfl, (blk_cell BK171.out 1).trans rfl, (blk_cell BK172.out 0).trans rfl, (blk_cell BK172.out 1).trans rfl, ((HB.out.cell (World.block_lt_of_cell? w _ hw173_0)).trans hw173_0), ((HB.out.cell (World.block_lt_of_cell? w _ hw173_1)).trans hw173_1), ((HB.out.cell (World.block_lt_of_cell? w _ hw173_2)).trans hw173_2), ((HB.out.cell (World.block_lt_of_cell? w _ hw173_3)).trans hw173_3), ((HB.out.cell (World.block_lt_of_cell? w _ hw174_0)).trans hw174_0), ((HB.out.cell (World.block_lt_of_cell? w _ hw174_1)).trans hw174_1), ((HB.out.cell (World.block_lt_of_cell? w _ hw174_2)).trans hw174_2), ((HB.out.cell (World.block_lt_of_cell? w _ hw174_3)).trans hw174_3)⟩ (fun hHeld => ?_); refine with_tabW eddylaw14_sameState.tab12 eddylaw14_sameState.bits12 (fun HT_ HW_ => ?_)
                                    generalize wr.drew = w53 at BK167 BK168 BK171 BK172 HB HR173_3 HR174_3 hx173_0 hx173_1 hx173_2 hx173_3 hx174_0 hx174_1 hx174_2 hx174_3 hHeld ⊢
                                    refine pure_ (i := 0) (N := some 61) (v := ?_) (a' := ?_) #[true, false, false, false, false, false, false, false, false, false, false, false] rfl rfl (any_of HT_.out (by kernel_rfl)) (fun _ _ _ h => h) (Or.inl ⟨by rfl, ?_⟩) ?_ ?_
                                    rotate_left
                                    · intro w'
                                      go_simp
                                      with_reducible rfl
                                    rotate_left
                                    · simp only [Act.put, List.setIfInBounds_toArray, List.set_cons_zero, List.set_cons_succ, i64_w, i32_w]
                                      rfl
                                    refine pure_ (i := 2) (N := some 63) (v := ?_) (a' := ?_) #[true, false, true, false, false, false, false, false, false, false, false, false] rfl rfl (any_of HT_.out (by kernel_rfl)) (fun _ _ _ h => h) (Or.inl ⟨by rfl, ?_⟩) ?_ ?_
                                    rotate_left
                                    · intro w'
                                      go_simp
                                      with_reducible rfl
                                    rotate_left
                                    · simp only [Act.put, List.setIfInBounds_toArray, List.set_cons_zero, List.set_cons_succ, i64_w, i32_w]
                                      rfl
                                    refine pure_ (i := 5) (N := some 66) (v := ?_) (a' := ?_) #[true, false, true, false, false, true, false, false, false, false, false, false] rfl rfl (any_of HT_.out (by kernel_rfl)) (fun _ _ _ h => h) (Or.inl ⟨by rfl, ?_⟩) ?_ ?_
                                    rotate_left
                                    · intro w'
                                      go_simp
                                      with_reducible rfl
                                    rotate_left
                                    · simp only [Act.put, List.setIfInBounds_toArray, List.set_cons_zero, List.set_cons_succ, i64_w, i32_w]
                                      rfl
                                    refine pure_ (i := 7) (N := some 68) (v := ?_) (a' := ?_) #[true, false, true, false, false, true, false, true, false, false, false, false] rfl rfl (any_of HT_.out (by kernel_rfl)) (fun _ _ _ h => h) (Or.inl ⟨by rfl, ?_⟩) ?_ ?_
                                    rotate_left
                                    · intro w'
                                      go_simp
                                      with_reducible rfl
                                    rotate_left
                                    · simp only [Act.put, List.setIfInBounds_toArray, List.set_cons_zero, List.set_cons_succ, i64_w, i32_w]
                                      rfl
                                    refine take_ (i := 1) (N := some 62) (v := ?_) (a' := ?_) #[true, true, true, false, false, true, false, true, false, false, false, false] rfl rfl (take_ofW HT_.out HW_.out (by kernel_rfl)) (fun _ _ _ h => h) (Or.inl ⟨by rfl, ?_⟩) hHeld ?_ ?_
                                    rotate_left
                                    · rintro w' ⟨s0, s1, s2, s3, s4, s5, s6, s7, s8, s9, s10, s11⟩
                                      go_simp
                                      with_reducible rfl
                                    rotate_left
                                    · simp only [Act.put, List.setIfInBounds_toArray, List.set_cons_zero, List.set_cons_succ, i64_w, i32_w]
                                      rfl
                                    refine pure_ (i := 3) (N := some 64) (v := ?_) (a' := ?_) #[true, true, true, true, false, true, false, true, false, false, false, false] rfl rfl (any_of HT_.out (by kernel_rfl)) (fun _ _ _ h => h) (Or.inl ⟨by rfl, ?_⟩) ?_ ?_
                                    rotate_left
                                    · intro w'
                                      go_simp
                                      with_reducible rfl
                                    rotate_left
                                    · simp only [Act.put, List.setIfInBounds_toArray, List.set_cons_zero, List.set_cons_succ, i64_w, i32_w]
                                      rfl
                                    refine take_ (i := 4) (N := some 65) (v := ?_) (a' := ?_) #[true, true, true, true, true, true, false, true, false, false, false, false] rfl rfl (take_ofW HT_.out HW_.out (by kernel_rfl)) (fun _ _ _ h => h) (Or.inl ⟨by rfl, ?_⟩) hHeld ?_ ?_
                                    rotate_left
                                    · rintro w' ⟨s0, s1, s2, s3, s4, s5, s6, s7, s8, s9, s10, s11⟩
                                      go_simp
                                      with_reducible rfl
                                    rotate_left
                                    · simp only [Act.put, List.setIfInBounds_toArray, List.set_cons_zero, List.set_cons_succ, i64_w, i32_w]
                                      rfl
                                    refine take_ (i := 6) (N := some 67) (v := ?_) (a' := ?_) #[true, true, true, true, true, true, true, true, false, false, false, false] rfl rfl (take_ofW HT_.out HW_.out (by kernel_rfl)) (fun _ _ _ h => h) (Or.inl ⟨by rfl, ?_⟩) hHeld ?_ ?_
                                    rotate_left
                                    · rintro w' ⟨s0, s1, s2, s3, s4, s5, s6, s7, s8, s9, s10, s11⟩
                                      go_simp
                                      with_reducible rfl
                                    rotate_left
                                    · simp only [Act.put, List.setIfInBounds_toArray, List.set_cons_zero, List.set_cons_succ, i64_w, i32_w]
                                      rfl
                                    refine pure_ (i := 8) (N := some 69) (v := ?_) (a' := ?_) #[true, true, true, true, true, true, true, true, true, false, false, false] rfl rfl (any_of HT_.out (by kernel_rfl)) (fun _ _ _ h => h) (Or.inl ⟨by rfl, ?_⟩) ?_ ?_
                                    rotate_left
                                    · intro w'
                                      go_simp
                                      with_reducible rfl
                                    rotate_left
                                    · simp only [Act.put, List.setIfInBounds_toArray, List.set_cons_zero, List.set_cons_succ, i64_w, i32_w]
                                      rfl
                                    refine take_ (i := 9) (N := some 70) (v := ?_) (a' := ?_) #[true, true, true, true, true, true, true, true, true, true, false, false] rfl rfl (take_ofW HT_.out HW_.out (by kernel_rfl)) (fun _ _ _ h => h) (Or.inl ⟨by rfl, ?_⟩) hHeld ?_ ?_
                                    rotate_left
                                    · rintro w' ⟨s0, s1, s2, s3, s4, s5, s6, s7, s8, s9, s10, s11⟩
                                      go_simp
                                      with_reducible rfl
                                    rotate_left
                                    · simp only [Act.put, List.setIfInBounds_toArray, List.set_cons_zero, List.set_cons_succ, i64_w, i32_w]
                                      rfl
                                    refine one_ (i := 10) (N := some 71) #[true, true, true, true, true, true, true, true, true, true, true, false] rfl rfl (one_of HT_.out (by kernel_rfl)) (by decide) (fun K hK => ?_)
                                    refine goes_ Try.func47 (by kernel_rfl) rfl #[.agg #[.int .i64 ((rd_T81 ((rd_T103 l0_1 x5_2).f1) x8_4).f0), .int .i64 ((rd_T81 ((rd_T103 l0_1 x5_2).f1) x8_4).f1), .string ((rd_T81 ((rd_T103 l0_1 x5_2).f1) x8_4).f2), .slice A173_3 ((rd_T81 ((rd_T103 l0_1 x5_2).f1) x8_4).f3).length c173_3], .agg #[.int .i64 ((rd_T81 ((rd_T103 l1_1 x5_2).f1) x8_4).f0), .int .i64 ((rd_T81 ((rd_T103 l1_1 x5_2).f1) x8_4).f1), .string ((rd_T81 ((rd_T103 l1_1 x5_2).f1) x8_4).f2), .slice A174_3 ((rd_T81 ((rd_T103 l1_1 x5_2).f1) x8_4).f3).length c174_3]] (by rfl) rfl rfl (by (try simp only [List.map_toArray, List.map_cons, List.map_nil]); first | done | rfl | (simp only [List.length_drop, List.length_take]; rfl)) ?_
                                    with_reducible refine (eddylaw14_sameValue.calls k4 ((rd_T81 ((rd_T103 l0_1 x5_2).f1) x8_4).f0) ((rd_T81 ((rd_T103 l0_1 x5_2).f1) x8_4).f1) ((rd_T81 ((rd_T103 l0_1 x5_2).f1) x8_4).f2) _ _ ((rd_T81 ((rd_T103 l0_1 x5_2).f1) x8_4).f3) ((rd_T81 ((rd_T103 l1_1 x5_2).f1) x8_4).f0) ((rd_T81 ((rd_T103 l1_1 x5_2).f1) x8_4).f1) ((rd_T81 ((rd_T103 l1_1 x5_2).f1) x8_4).f2) _ _ ((rd_T81 ((rd_T103 l1_1 x5_2).f1) x8_4).f3) true _ ?side1 ?side2 ?side3 ?side4 A47.out).mono ?_
                                    (case side1 => repeat (first | exact (Kd.C_below HR173_3.out HB.out) | (with_reducible refine Kd.C_alloc ?_ _) | (with_reducible refine Kd.C_drewN ?_ _) | (with_reducible refine Kd.C_drew ?_)))
                                    (case side2 => exact HC173_3.out)
                                    (case side3 => repeat (first | exact (Kd.C_below HR174_3.out HB.out) | (with_reducible refine Kd.C_alloc ?_ _) | (with_reducible refine Kd.C_drewN ?_ _) | (with_reducible refine Kd.C_drew ?_)))
                                    (case side4 => exact HC174_3.out)
                                    rintro e w54 ⟨rfl, hb⟩
                                    refine ⟨_, rfl, ?_⟩
                                    have n0_ := Aside0.mk (blk_below (g := gb167) (o := .cells #[.int .i64 a0_0, .slice (some ad169) l0_1.length c0_1] 36 (0, 0)) (by (with_reducible repeat (first | refine blk_drewN ?_ _ | refine blk_drew ?_ | refine blk_alloc ?_ _)); exact BK167.out) hb)
                                    have n1_ := Aside0.mk (blk_below (g := gb168) (o := .cells #[.int .i64 a1_0, .slice (some ad170) l1_1.length c1_1] 36 (0, 0)) (by (with_reducible repeat (first | refine blk_drewN ?_ _ | refine blk_drew ?_ | refine blk_alloc ?_ _)); exact BK168.out) hb)
                                    have n2_ := Aside0.mk (blk_below (g := gb171) (o := .cells #[.string ((rd_T103 l0_1 x5_2).f0), .slice (some ad173) ((rd_T103 l0_1 x5_2).f1).length c169_1] 103 (0, 0)) (by (with_reducible repeat (first | refine blk_drewN ?_ _ | refine blk_drew ?_ | refine blk_alloc ?_ _)); exact BK171.out) hb)
                                    have n3_ := Aside0.mk (blk_below (g := gb172) (o := .cells #[.string ((rd_T103 l1_1 x5_2).f0), .slice (some ad174) ((rd_T103 l1_1 x5_2).f1).length c170_1] 103 (0, 0)) (by (with_reducible repeat (first | refine blk_drewN ?_ _ | refine blk_drew ?_ | refine blk_alloc ?_ _)); exact BK172.out) hb)
                                    have n4_ := Aside0.mk (below_step (by repeat (first | (with_reducible first | exact HB.out | apply below_alloc | apply pw_below_drewN | apply below_drew1 | refine below_set ?_ GE167.out | refine below_set ?_ GE168.out | refine below_set ?_ GE171.out | refine below_set ?_ GE172.out) | exact HB.out)) hb)
                                    clear BK167
                                    clear BK168
                                    clear BK171
                                    clear BK172
                                    clear HB
                                    have BK167 := n0_
                                    have BK168 := n1_
                                    have BK171 := n2_
                                    have BK172 := n3_
                                    have HB := n4_
                                    clear n0_ n1_ n2_ n3_ n4_
                                    (try clear hb)
                                    (try clear hb2)
                                    (try clear hk)
                                    (try clear hi)
                                    refine hK.out _ _ ⟨(blk_cell BK171.out 0).trans rfl, (blk_cell BK171.out 1).trans rfl, (blk_cell BK172.out 0).trans rfl, (blk_cell BK172.out 1).trans rfl, ((HB.out.cell (World.block_lt_of_cell? w _ hw173_0)).trans hw173_0), ((HB.out.cell (World.block_lt_of_cell? w _ hw173_1)).trans hw173_1), ((HB.out.cell (World.block_lt_of_cell? w _ hw173_2)).trans hw173_2), ((HB.out.cell (World.block_lt_of_cell? w _ hw173_3)).trans hw173_3), ((HB.out.cell (World.block_lt_of_cell? w _ hw174_0)).trans hw174_0), ((HB.out.cell (World.block_lt_of_cell? w _ hw174_1)).trans hw174_1), ((HB.out.cell (World.block_lt_of_cell? w _ hw174_2)).trans hw174_2), ((HB.out.cell (World.block_lt_of_cell? w _ hw174_3)).trans hw174_3)⟩ (fun hHeld => ?_)
                                    clear hK K
                                    refine norm_ (a' := ?_) ?_ ?_
                                    rotate_left
                                    · show Act.put _ (some 71) _ = _
                                      simp only [Act.put, List.setIfInBounds_toArray, List.set_cons_zero, List.set_cons_succ, i64_w, i32_w]
                                      rfl
                                    refine pure_ (i := 11) (N := some 72) (v := ?_) (a' := ?_) #[true, true, true, true, true, true, true, true, true, true, true, true] rfl rfl (any_of HT_.out (by kernel_rfl)) (fun _ _ _ h => h) (Or.inl ⟨by rfl, ?_⟩) ?_ ?_
                                    rotate_left
                                    · intro w'
                                      go_simp
                                      with_reducible rfl
                                    rotate_left
                                    · simp only [Act.put, List.setIfInBounds_toArray, List.set_cons_zero, List.set_cons_succ, i64_w, i32_w]
                                      rfl
                                    refine done_ (done_of HT_.out (by kernel_rfl)) ?_
                                    try go_wp2
                                    go_roundg k4
                                    case measure => have := HJ2.out; have := HK2.out; have := HJ16.out; have := HK4.out; omega
                                    case rel => exact ⟨(wrap64 (x8_4 + 1)), (by first | rfl | (simp; done) | (simp [*]; done)), H', ⟨by have := HJ2.out; have := HK2.out; have := HJ16.out; have := HK4.out; omega⟩, ⟨by (with_reducible repeat (first | refine blk_drewN ?_ _ | refine blk_drew ?_ | refine blk_alloc ?_ _)); exact BK167.out⟩, ⟨by (with_reducible repeat (first | refine blk_drewN ?_ _ | refine blk_drew ?_ | refine blk_alloc ?_ _)); exact BK168.out⟩, ⟨by (with_reducible repeat (first | refine blk_drewN ?_ _ | refine blk_drew ?_ | refine blk_alloc ?_ _)); exact BK171.out⟩, ⟨by (with_reducible repeat (first | refine blk_drewN ?_ _ | refine blk_drew ?_ | refine blk_alloc ?_ _)); exact BK172.out⟩, ⟨by repeat (first | (with_reducible first | exact HB.out | apply below_alloc | apply pw_below_drewN | apply below_drew1 | refine below_set ?_ GE167.out | refine below_set ?_ GE168.out | refine below_set ?_ GE171.out | refine below_set ?_ GE172.out) | exact HB.out)⟩⟩
                                  · replace c48 := Bool.eq_false_iff.mpr c48
                                    subst c48
                                    have H1 : (some false) = some r := by rw [if_neg (show ¬ (false = true) by decide)] at H; exact H
                                    clear H
                                    have H := H1
                                    clear H1
                                    obtain rfl := Option.some.inj H
                                    have hnb55 := NB171_167.out
                                    have hnc55 := NB167_171.out
                                    have hnb56 := NB171_168.out
                                    have hnc56 := NB168_171.out
                                    have hnb57 := NB171_172.out
                                    have hnc57 := NB172_171.out
                                    have hcz58_0 : wr.cell? ⟨gb171, 0, none⟩ = some (.string ((rd_T103 l0_1 x5_2).f0)) := (blk_cell BK171.out 0).trans rfl
                                    have hcz58_1 : wr.cell? ⟨gb171, 1, none⟩ = some (.slice A169_1 ((rd_T103 l0_1 x5_2).f1).length c169_1) := (blk_cell BK171.out 1).trans rfl
                                    have hfz58_0 := blk_frozen BK171.out 0
                                    have hfz58_1 := blk_frozen BK171.out 1
                                    try go_wp2
                                    have n0_ := Aside0.mk (blk_drew BK167.out)
                                    have n1_ := Aside0.mk (blk_drew BK168.out)
                                    have n2_ := Aside0.mk (blk_drew BK171.out)
                                    have n3_ := Aside0.mk (blk_drew BK172.out)
                                    have n4_ := Aside0.mk (below_drew1 HB.out)
                                    clear BK167
                                    clear BK168
                                    clear BK171
                                    clear BK172
                                    clear HB
                                    have BK167 := n0_
                                    have BK168 := n1_
                                    have BK171 := n2_
                                    have BK172 := n3_
                                    have HB := n4_
                                    clear n0_ n1_ n2_ n3_ n4_
                                    have p173 : 0 ≤ (x8_4 : Int) := of_decide_eq_true (by first | (with_reducible assumption) | assumption)
                                    have q173 : x8_4 < (((rd_T103 l0_1 x5_2).f1).length : Int) := of_decide_eq_true (by first | (with_reducible assumption) | assumption)
                                    obtain ⟨ad173, A173_3, c173_3, e173, hx173_0, hx173_1, hx173_2, hx173_3, hl173_3, hi173_3⟩ := at_T81 HR169_1.out x8_4 p173 q173
                                    have hw173_3 := hx173_3
                                    have hw173_2 := hx173_2
                                    have hw173_1 := hx173_1
                                    have hw173_0 := hx173_0
                                    cases e173
                                    replace hx173_0 := (HB.out.cell (World.block_lt_of_cell? w _ hx173_0)).trans hx173_0
                                    replace hx173_1 := (HB.out.cell (World.block_lt_of_cell? w _ hx173_1)).trans hx173_1
                                    replace hx173_2 := (HB.out.cell (World.block_lt_of_cell? w _ hx173_2)).trans hx173_2
                                    replace hx173_3 := (HB.out.cell (World.block_lt_of_cell? w _ hx173_3)).trans hx173_3
                                    have HR173_3 := Aside0.mk hi173_3
                                    have HC173_3 := Aside0.mk hl173_3
                                    clear hi173_3 hl173_3
                                    replace p173 := eq_true p173
                                    replace q173 := eq_true q173
                                    have p174 : 0 ≤ (x8_4 : Int) := of_decide_eq_true (by first | (with_reducible assumption) | assumption)
                                    have q174 : x8_4 < (((rd_T103 l1_1 x5_2).f1).length : Int) := of_decide_eq_true (by first | (with_reducible assumption) | assumption)
                                    obtain ⟨ad174, A174_3, c174_3, e174, hx174_0, hx174_1, hx174_2, hx174_3, hl174_3, hi174_3⟩ := at_T81 HR170_1.out x8_4 p174 q174
                                    have hw174_3 := hx174_3
                                    have hw174_2 := hx174_2
                                    have hw174_1 := hx174_1
                                    have hw174_0 := hx174_0
                                    cases e174
                                    replace hx174_0 := (HB.out.cell (World.block_lt_of_cell? w _ hx174_0)).trans hx174_0
                                    replace hx174_1 := (HB.out.cell (World.block_lt_of_cell? w _ hx174_1)).trans hx174_1
                                    replace hx174_2 := (HB.out.cell (World.block_lt_of_cell? w _ hx174_2)).trans hx174_2
                                    replace hx174_3 := (HB.out.cell (World.block_lt_of_cell? w _ hx174_3)).trans hx174_3
                                    have HR174_3 := Aside0.mk hi174_3
                                    have HC174_3 := Aside0.mk hl174_3
                                    clear hi174_3 hl174_3
                                    replace p174 := eq_true p174
                                    replace q174 := eq_true q174
                                    refine start_ (n := 12) (S := fun w' => w'.cell? ⟨gb171, 0, none⟩ = some (.string ((rd_T103 l0_1 x5_2).f0)) ∧ w'.cell? ⟨gb171, 1, none⟩ = some (.slice (some ad173) ((rd_T103 l0_1 x5_2).f1).length c169_1) ∧ w'.cell? ⟨gb172, 0, none⟩ = some (.string ((rd_T103 l1_1 x5_2).f0)) ∧ w'.cell? ⟨gb172, 1, none⟩ = some (.slice (some ad174) ((rd_T103 l1_1 x5_2).f1).length c170_1) ∧ w'.cell? (ad173.add ((x8_4).toNat * 4)) = some (.int .i64 ((rd_T81 ((rd_T103 l0_1 x5_2).f1) x8_4).f0)) ∧ w'.cell? ⟨(ad173.add ((x8_4).toNat * 4)).block, (ad173.add ((x8_4).toNat * 4)).off + 1, none⟩ = some (.int .i64 ((rd_T81 ((rd_T103 l0_1 x5_2).f1) x8_4).f1)) ∧ w'.cell? ⟨(ad173.add ((x8_4).toNat * 4)).block, (ad173.add ((x8_4).toNat * 4)).off + 2, none⟩ = some (.string ((rd_T81 ((rd_T103 l0_1 x5_2).f1) x8_4).f2)) ∧ w'.cell? ⟨(ad173.add ((x8_4).toNat * 4)).block, (ad173.add ((x8_4).toNat * 4)).off + 3, none⟩ = some (.slice A173_3 ((rd_T81 ((rd_T103 l0_1 x5_2).f1) x8_4).f3).length c173_3) ∧ w'.cell? (ad174.add ((x8_4).toNat * 4)) = some (.int .i64 ((rd_T81 ((rd_T103 l1_1 x5_2).f1) x8_4).f0)) ∧ w'.cell? ⟨(ad174.add ((x8_4).toNat * 4)).block, (ad174.add ((x8_4).toNat * 4)).off + 1, none⟩ = some (.int .i64 ((rd_T81 ((rd_T103 l1_1 x5_2).f1) x8_4).f1)) ∧ w'.cell? ⟨(ad174.add ((x8_4).toNat * 4)).block, (ad174.add ((x8_4).toNat * 4)).off + 2, none⟩ = some (.string ((rd_T81 ((rd_T103 l1_1 x5_2).f1) x8_4).f2)) ∧ w'.cell? ⟨(ad174.add ((x8_4).toNat * 4)).block, (ad174.add ((x8_4).toNat * 4)).off + 3, none⟩ = some (.slice A174_3 ((rd_T81 ((rd_T103 l1_1 x5_2).f1) x8_4).f3).length c174_3)) (ds := []) #[false, false, false, false, false, false, false, false, false, false, false, false] (by kernel_rfl) rfl rfl ⟨(blk_cell BK171.out 0).trans rfl, (blk_cell BK171.out 1).trans rfl, (blk_cell BK172.out 0).trans rfl, (blk_cell BK172.out 1).trans rfl, ((HB.out.cell (World.block_lt_of_cell? w _ hw173_0)).trans hw173_0), ((HB.out.cell (World.block_lt_of_cell? w _ hw173_1)).trans hw173_1), ((HB.out.cell (World.block_lt_of_cell? w _ hw173_2)).trans hw173_2), ((HB.out.cell (World.block_lt_of_cell? w _ hw173_3)).trans hw173_3), ((HB.out.cell (World.block_lt_of_cell? w _ hw174_0)).trans hw174_0), ((HB.out.cell (World.block_lt_of_cell? w _ hw174_1)).trans hw174_1), ((HB.out.cell (World.block_lt_of_cell? w _ hw174_2)).trans hw174_2), ((HB.out.cell (World.block_lt_of_cell? w _ hw174_3)).trans hw174_3)⟩ (fun hHeld => ?_); refine with_tabW eddylaw14_sameState.tab12 eddylaw14_sameState.bits12 (fun HT_ HW_ => ?_)
                                    generalize wr.drew = w59 at BK167 BK168 BK171 BK172 HB HR173_3 HR174_3 hx173_0 hx173_1 hx173_2 hx173_3 hx174_0 hx174_1 hx174_2 hx174_3 hHeld ⊢
                                    refine pure_ (i := 0) (N := some 61) (v := ?_) (a' := ?_) #[true, false, false, false, false, false, false, false, false, false, false, false] rfl rfl (any_of HT_.out (by kernel_rfl)) (fun _ _ _ h => h) (Or.inl ⟨by rfl, ?_⟩) ?_ ?_
                                    rotate_left
                                    · intro w'
                                      go_simp
                                      with_reducible rfl
                                    rotate_left
                                    · simp only [Act.put, List.setIfInBounds_toArray, List.set_cons_zero, List.set_cons_succ, i64_w, i32_w]
                                      rfl
                                    refine pure_ (i := 2) (N := some 63) (v := ?_) (a' := ?_) #[true, false, true, false, false, false, false, false, false, false, false, false] rfl rfl (any_of HT_.out (by kernel_rfl)) (fun _ _ _ h => h) (Or.inl ⟨by rfl, ?_⟩) ?_ ?_
                                    rotate_left
                                    · intro w'
                                      go_simp
                                      with_reducible rfl
                                    rotate_left
                                    · simp only [Act.put, List.setIfInBounds_toArray, List.set_cons_zero, List.set_cons_succ, i64_w, i32_w]
                                      rfl
                                    refine pure_ (i := 5) (N := some 66) (v := ?_) (a' := ?_) #[true, false, true, false, false, true, false, false, false, false, false, false] rfl rfl (any_of HT_.out (by kernel_rfl)) (fun _ _ _ h => h) (Or.inl ⟨by rfl, ?_⟩) ?_ ?_
                                    rotate_left
                                    · intro w'
                                      go_simp
                                      with_reducible rfl
                                    rotate_left
                                    · simp only [Act.put, List.setIfInBounds_toArray, List.set_cons_zero, List.set_cons_succ, i64_w, i32_w]
                                      rfl
                                    refine pure_ (i := 7) (N := some 68) (v := ?_) (a' := ?_) #[true, false, true, false, false, true, false, true, false, false, false, false] rfl rfl (any_of HT_.out (by kernel_rfl)) (fun _ _ _ h => h) (Or.inl ⟨by rfl, ?_⟩) ?_ ?_
                                    rotate_left
                                    · intro w'
                                      go_simp
                                      with_reducible rfl
                                    rotate_left
                                    · simp only [Act.put, List.setIfInBounds_toArray, List.set_cons_zero, List.set_cons_succ, i64_w, i32_w]
                                      rfl
                                    refine take_ (i := 1) (N := some 62) (v := ?_) (a' := ?_) #[true, true, true, false, false, true, false, true, false, false, false, false] rfl rfl (take_ofW HT_.out HW_.out (by kernel_rfl)) (fun _ _ _ h => h) (Or.inl ⟨by rfl, ?_⟩) hHeld ?_ ?_
                                    rotate_left
                                    · rintro w' ⟨s0, s1, s2, s3, s4, s5, s6, s7, s8, s9, s10, s11⟩
                                      go_simp
                                      with_reducible rfl
                                    rotate_left
                                    · simp only [Act.put, List.setIfInBounds_toArray, List.set_cons_zero, List.set_cons_succ, i64_w, i32_w]
                                      rfl
                                    refine pure_ (i := 3) (N := some 64) (v := ?_) (a' := ?_) #[true, true, true, true, false, true, false, true, false, false, false, false] rfl rfl (any_of HT_.out (by kernel_rfl)) (fun _ _ _ h => h) (Or.inl ⟨by rfl, ?_⟩) ?_ ?_
                                    rotate_left
                                    · intro w'
                                      go_simp
                                      with_reducible rfl
                                    rotate_left
                                    · simp only [Act.put, List.setIfInBounds_toArray, List.set_cons_zero, List.set_cons_succ, i64_w, i32_w]
                                      rfl
                                    refine take_ (i := 4) (N := some 65) (v := ?_) (a' := ?_) #[true, true, true, true, true, true, false, true, false, false, false, false] rfl rfl (take_ofW HT_.out HW_.out (by kernel_rfl)) (fun _ _ _ h => h) (Or.inl ⟨by rfl, ?_⟩) hHeld ?_ ?_
                                    rotate_left
                                    · rintro w' ⟨s0, s1, s2, s3, s4, s5, s6, s7, s8, s9, s10, s11⟩
                                      go_simp
                                      with_reducible rfl
                                    rotate_left
                                    · simp only [Act.put, List.setIfInBounds_toArray, List.set_cons_zero, List.set_cons_succ, i64_w, i32_w]
                                      rfl
                                    refine take_ (i := 6) (N := some 67) (v := ?_) (a' := ?_) #[true, true, true, true, true, true, true, true, false, false, false, false] rfl rfl (take_ofW HT_.out HW_.out (by kernel_rfl)) (fun _ _ _ h => h) (Or.inl ⟨by rfl, ?_⟩) hHeld ?_ ?_
                                    rotate_left
                                    · rintro w' ⟨s0, s1, s2, s3, s4, s5, s6, s7, s8, s9, s10, s11⟩
                                      go_simp
                                      with_reducible rfl
                                    rotate_left
                                    · simp only [Act.put, List.setIfInBounds_toArray, List.set_cons_zero, List.set_cons_succ, i64_w, i32_w]
                                      rfl
                                    refine pure_ (i := 8) (N := some 69) (v := ?_) (a' := ?_) #[true, true, true, true, true, true, true, true, true, false, false, false] rfl rfl (any_of HT_.out (by kernel_rfl)) (fun _ _ _ h => h) (Or.inl ⟨by rfl, ?_⟩) ?_ ?_
                                    rotate_left
                                    · intro w'
                                      go_simp
                                      with_reducible rfl
                                    rotate_left
                                    · simp only [Act.put, List.setIfInBounds_toArray, List.set_cons_zero, List.set_cons_succ, i64_w, i32_w]
                                      rfl
                                    refine take_ (i := 9) (N := some 70) (v := ?_) (a' := ?_) #[true, true, true, true, true, true, true, true, true, true, false, false] rfl rfl (take_ofW HT_.out HW_.out (by kernel_rfl)) (fun _ _ _ h => h) (Or.inl ⟨by rfl, ?_⟩) hHeld ?_ ?_
                                    rotate_left
                                    · rintro w' ⟨s0, s1, s2, s3, s4, s5, s6, s7, s8, s9, s10, s11⟩
                                      go_simp
                                      with_reducible rfl
                                    rotate_left
                                    · simp only [Act.put, List.setIfInBounds_toArray, List.set_cons_zero, List.set_cons_succ, i64_w, i32_w]
                                      rfl
                                    refine one_ (i := 10) (N := some 71) #[true, true, true, true, true, true, true, true, true, true, true, false] rfl rfl (one_of HT_.out (by kernel_rfl)) (by decide) (fun K hK => ?_)
                                    refine goes_ Try.func47 (by kernel_rfl) rfl #[.agg #[.int .i64 ((rd_T81 ((rd_T103 l0_1 x5_2).f1) x8_4).f0), .int .i64 ((rd_T81 ((rd_T103 l0_1 x5_2).f1) x8_4).f1), .string ((rd_T81 ((rd_T103 l0_1 x5_2).f1) x8_4).f2), .slice A173_3 ((rd_T81 ((rd_T103 l0_1 x5_2).f1) x8_4).f3).length c173_3], .agg #[.int .i64 ((rd_T81 ((rd_T103 l1_1 x5_2).f1) x8_4).f0), .int .i64 ((rd_T81 ((rd_T103 l1_1 x5_2).f1) x8_4).f1), .string ((rd_T81 ((rd_T103 l1_1 x5_2).f1) x8_4).f2), .slice A174_3 ((rd_T81 ((rd_T103 l1_1 x5_2).f1) x8_4).f3).length c174_3]] (by rfl) rfl rfl (by (try simp only [List.map_toArray, List.map_cons, List.map_nil]); first | done | rfl | (simp only [List.length_drop, List.length_take]; rfl)) ?_
                                    with_reducible refine (eddylaw14_sameValue.calls k4 ((rd_T81 ((rd_T103 l0_1 x5_2).f1) x8_4).f0) ((rd_T81 ((rd_T103 l0_1 x5_2).f1) x8_4).f1) ((rd_T81 ((rd_T103 l0_1 x5_2).f1) x8_4).f2) _ _ ((rd_T81 ((rd_T103 l0_1 x5_2).f1) x8_4).f3) ((rd_T81 ((rd_T103 l1_1 x5_2).f1) x8_4).f0) ((rd_T81 ((rd_T103 l1_1 x5_2).f1) x8_4).f1) ((rd_T81 ((rd_T103 l1_1 x5_2).f1) x8_4).f2) _ _ ((rd_T81 ((rd_T103 l1_1 x5_2).f1) x8_4).f3) false _ ?side1 ?side2 ?side3 ?side4 A47.out).mono ?_
                                    (case side1 => repeat (first | exact (Kd.C_below HR173_3.out HB.out) | (with_reducible refine Kd.C_alloc ?_ _) | (with_reducible refine Kd.C_drewN ?_ _) | (with_reducible refine Kd.C_drew ?_)))
                                    (case side2 => exact HC173_3.out)
                                    (case side3 => repeat (first | exact (Kd.C_below HR174_3.out HB.out) | (with_reducible refine Kd.C_alloc ?_ _) | (with_reducible refine Kd.C_drewN ?_ _) | (with_reducible refine Kd.C_drew ?_)))
                                    (case side4 => exact HC174_3.out)
                                    rintro e w60 ⟨rfl, hb⟩
                                    refine ⟨_, rfl, ?_⟩
                                    have n0_ := Aside0.mk (blk_below (g := gb167) (o := .cells #[.int .i64 a0_0, .slice (some ad169) l0_1.length c0_1] 36 (0, 0)) (by (with_reducible repeat (first | refine blk_drewN ?_ _ | refine blk_drew ?_ | refine blk_alloc ?_ _)); exact BK167.out) hb)
                                    have n1_ := Aside0.mk (blk_below (g := gb168) (o := .cells #[.int .i64 a1_0, .slice (some ad170) l1_1.length c1_1] 36 (0, 0)) (by (with_reducible repeat (first | refine blk_drewN ?_ _ | refine blk_drew ?_ | refine blk_alloc ?_ _)); exact BK168.out) hb)
                                    have n2_ := Aside0.mk (blk_below (g := gb171) (o := .cells #[.string ((rd_T103 l0_1 x5_2).f0), .slice (some ad173) ((rd_T103 l0_1 x5_2).f1).length c169_1] 103 (0, 0)) (by (with_reducible repeat (first | refine blk_drewN ?_ _ | refine blk_drew ?_ | refine blk_alloc ?_ _)); exact BK171.out) hb)
                                    have n3_ := Aside0.mk (blk_below (g := gb172) (o := .cells #[.string ((rd_T103 l1_1 x5_2).f0), .slice (some ad174) ((rd_T103 l1_1 x5_2).f1).length c170_1] 103 (0, 0)) (by (with_reducible repeat (first | refine blk_drewN ?_ _ | refine blk_drew ?_ | refine blk_alloc ?_ _)); exact BK172.out) hb)
                                    have n4_ := Aside0.mk (below_step (by repeat (first | (with_reducible first | exact HB.out | apply below_alloc | apply pw_below_drewN | apply below_drew1 | refine below_set ?_ GE167.out | refine below_set ?_ GE168.out | refine below_set ?_ GE171.out | refine below_set ?_ GE172.out) | exact HB.out)) hb)
                                    clear BK167
                                    clear BK168
                                    clear BK171
                                    clear BK172
                                    clear HB
                                    have BK167 := n0_
                                    have BK168 := n1_
                                    have BK171 := n2_
                                    have BK172 := n3_
                                    have HB := n4_
                                    clear n0_ n1_ n2_ n3_ n4_
                                    (try clear hb)
                                    (try clear hb2)
                                    (try clear hk)
                                    (try clear hi)
                                    refine hK.out _ _ ⟨(blk_cell BK171.out 0).trans rfl, (blk_cell BK171.out 1).trans rfl, (blk_cell BK172.out 0).trans rfl, (blk_cell BK172.out 1).trans rfl, ((HB.out.cell (World.block_lt_of_cell? w _ hw173_0)).trans hw173_0), ((HB.out.cell (World.block_lt_of_cell? w _ hw173_1)).trans hw173_1), ((HB.out.cell (World.block_lt_of_cell? w _ hw173_2)).trans hw173_2), ((HB.out.cell (World.block_lt_of_cell? w _ hw173_3)).trans hw173_3), ((HB.out.cell (World.block_lt_of_cell? w _ hw174_0)).trans hw174_0), ((HB.out.cell (World.block_lt_of_cell? w _ hw174_1)).trans hw174_1), ((HB.out.cell (World.block_lt_of_cell? w _ hw174_2)).trans hw174_2), ((HB.out.cell (World.block_lt_of_cell? w _ hw174_3)).trans hw174_3)⟩ (fun hHeld => ?_)
                                    clear hK K
                                    refine norm_ (a' := ?_) ?_ ?_
                                    rotate_left
                                    · show Act.put _ (some 71) _ = _
                                      simp only [Act.put, List.setIfInBounds_toArray, List.set_cons_zero, List.set_cons_succ, i64_w, i32_w]
                                      rfl
                                    refine pure_ (i := 11) (N := some 72) (v := ?_) (a' := ?_) #[true, true, true, true, true, true, true, true, true, true, true, true] rfl rfl (any_of HT_.out (by kernel_rfl)) (fun _ _ _ h => h) (Or.inl ⟨by rfl, ?_⟩) ?_ ?_
                                    rotate_left
                                    · intro w'
                                      go_simp
                                      with_reducible rfl
                                    rotate_left
                                    · simp only [Act.put, List.setIfInBounds_toArray, List.set_cons_zero, List.set_cons_succ, i64_w, i32_w]
                                      rfl
                                    refine done_ (done_of HT_.out (by kernel_rfl)) ?_
                                    try go_wp2
                                    go_ret
                                    exact ⟨by first | rfl | (simp [errW_none, errW_some] <;> rfl) | (simp [*, errW_none, errW_some] <;> rfl), by repeat (first | (with_reducible first | exact HB.out | apply below_alloc | apply pw_below_drewN | apply below_drew1 | refine below_set ?_ GE167.out | refine below_set ?_ GE168.out | refine below_set ?_ GE171.out | refine below_set ?_ GE172.out) | exact HB.out)⟩
                                · rw [if_neg c46] at H
                                  exact absurd H (by simp)
                              · rw [if_neg c45] at H
                                exact absurd H (by simp)
                            · rw [if_neg c44] at H
                              have c44b0 : decide (x8_4 < (((rd_T103 l0_1 x5_2).f1).length : Int)) = false := decide_eq_false c44
                              clear c44
                              have H' := Aside0.mk H
                              clear H
                              have hnb61 := NB171_167.out
                              have hnc61 := NB167_171.out
                              have hnb62 := NB171_168.out
                              have hnc62 := NB168_171.out
                              have hnb63 := NB171_172.out
                              have hnc63 := NB172_171.out
                              have hcz64_0 : wr.cell? ⟨gb171, 0, none⟩ = some (.string ((rd_T103 l0_1 x5_2).f0)) := (blk_cell BK171.out 0).trans rfl
                              have hcz64_1 : wr.cell? ⟨gb171, 1, none⟩ = some (.slice A169_1 ((rd_T103 l0_1 x5_2).f1).length c169_1) := (blk_cell BK171.out 1).trans rfl
                              have hfz64_0 := blk_frozen BK171.out 0
                              have hfz64_1 := blk_frozen BK171.out 1
                              go_wp2
                              go_roundg k4
                              case measure => have := HJ2.out; have := HK2.out; have := HJ16.out; have := HK4.out; omega
                              case rel => exact ⟨(wrap64 (x5_2 + 1)), (by first | rfl | (simp; done) | (simp [*]; done)), H', ⟨by have := HJ2.out; have := HK2.out; have := HJ16.out; have := HK4.out; omega⟩, ⟨by (with_reducible repeat (first | refine blk_drewN ?_ _ | refine blk_drew ?_ | refine blk_alloc ?_ _)); exact BK167.out⟩, ⟨by (with_reducible repeat (first | refine blk_drewN ?_ _ | refine blk_drew ?_ | refine blk_alloc ?_ _)); exact BK168.out⟩, ⟨by repeat (first | (with_reducible first | exact HB.out | apply below_alloc | apply pw_below_drewN | apply below_drew1 | refine below_set ?_ GE167.out | refine below_set ?_ GE168.out | refine below_set ?_ GE171.out | refine below_set ?_ GE172.out) | exact HB.out)⟩⟩
                · rw [if_neg c16] at H
                  exact absurd H (by simp)
              · rw [if_neg c15] at H
                exact absurd H (by simp)
            · rw [if_neg c14] at H
              have c14b0 : decide (x5_2 < (l0_1.length : Int)) = false := decide_eq_false c14
              clear c14
              obtain rfl := Option.some.inj H
              have hnb65 := NB167_168.out
              have hnc65 := NB168_167.out
              have hcz66_0 : wr.cell? ⟨gb167, 0, none⟩ = some (.int .i64 a0_0) := (blk_cell BK167.out 0).trans rfl
              have hcz66_1 : wr.cell? ⟨gb167, 1, none⟩ = some (.slice A0_1 l0_1.length c0_1) := (blk_cell BK167.out 1).trans rfl
              have hfz66_0 := blk_frozen BK167.out 0
              have hfz66_1 := blk_frozen BK167.out 1
              go_wp2
              go_ret
              exact ⟨by first | rfl | (simp [errW_none, errW_some] <;> rfl) | (simp [*, errW_none, errW_some] <;> rfl), by repeat (first | (with_reducible first | exact HB.out | apply below_alloc | apply pw_below_drewN | apply below_drew1 | refine below_set ?_ GE167.out | refine below_set ?_ GE168.out) | exact HB.out)⟩

end Go.Proofs.Ytcbaiplamaopeaa.PPostShots
