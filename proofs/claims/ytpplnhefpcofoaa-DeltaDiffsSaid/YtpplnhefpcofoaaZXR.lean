/- The reference's rank: as print.sh wrote it for DeltaDiffs, over the trimmed kinds. -/
import Derived.Test.YtpplnhefpcofoaaZXS
import Derived.Test.YtpplnhefpcofoaaZWRepsOne
namespace Go.Proofs.Ytpplnhefpcofoaa.PDeltaJoin
open Go.RowKit Go.Proofs.YtpplnhefpcofoaaW.PrintWords Go.Proofs.YtpplnhefpcofoaaW.PrintLast
set_option linter.unusedVariables false
set_option linter.unusedSimpArgs false

set_option maxHeartbeats 8000000 in
set_option maxRecDepth 100000 in
theorem eddyref2_rank.calls (k : Nat) : ∀ (A0 : Option Addr) (c0 : Nat) (l0 : List (S111)) (a1 : Int) (r1 : List Int) (r2 : Int) (w : World) (hr0 : Kd.C k111 w A0 l0.length l0) (hc0 : l0.length ≤ c0) (h : eddyref2_rank.f k l0 a1 = some (r1, r2)),
    Calls Try.prog 63 #[.slice A0 l0.length c0, .int .i64 a1] w fun e w' => ∃ v0_ : Value, e = .returned (.tuple #[v0_, .int .i64 r2]) ∧ Kd.R (Kd.int .u8) 5 w' w.heap.size (fun _ => True) v0_ r1 ∧ Below w.heap.size w w' := by
  induction k using Nat.strongRecOn with
  | _ k ih =>
  intro A0 c0 l0 a1 r1 r2 w hr0 hc0 h
  cases k with
  | zero => exact absurd h (by simp [eddyref2_rank.f])
  | succ k =>
  simp only [eddyref2_rank.f] at h
  have hu111 := Try.underlying111
  have HR0 := Aside0.mk hr0
  have HC0 := Aside0.mk hc0
  clear hr0 hc0
  have HB := Aside0.mk (Below.refl w.heap.size w)
  have H : (if 0 ≤ a1 then (if a1 < (l0.length : Int) then ((some (([(wrap64 (((rd_T111 l0 a1).f0) + 1)) % 256] : List Int) : List Int)).bind fun y282 => (if ((rd_T111 l0 a1).f0) = 1 then ((eddyref2_place.f k ((rd_T111 l0 a1).f1)).bind fun t285 => (if y282.length + t285.length < 140737488355328 then (some ((y282 ++ t285), wrap64 (a1 + 1))) else (none))) else (if ((rd_T111 l0 a1).f0) = 2 then (eddyref2_rank.l0 k y282 (wrap64 (a1 + 1)) 0 ((rd_T111 l0 a1).f0) ((rd_T111 l0 a1).f1) ((rd_T111 l0 a1).f2) ((rd_T111 l0 a1).f3)) else (if ((rd_T111 l0 a1).f0) = 3 then (eddyref2_rank.l1 k l0 y282 (wrap64 (a1 + 1)) 0 ((rd_T111 l0 a1).f0) ((rd_T111 l0 a1).f1) ((rd_T111 l0 a1).f2) ((rd_T111 l0 a1).f3)) else (some (y282, wrap64 (a1 + 1))))))) else (none)) else (none)) = some (r1, r2) := h
  clear h
  by_cases c3 : 0 ≤ a1
  · rw [if_pos c3] at H
    have c3b0 : decide (0 ≤ a1) = true := decide_eq_true c3
    clear c3
    by_cases c4 : a1 < (l0.length : Int)
    · rw [if_pos c4] at H
      have c4b0 : decide (a1 < (l0.length : Int)) = true := decide_eq_true c4
      clear c4
      obtain ⟨y282, hy282⟩ : ∃ y_ : List Int, y_ = (([(wrap64 (((rd_T111 l0 a1).f0) + 1)) % 256] : List Int)) := ⟨_, rfl⟩
      replace H : (if ((rd_T111 l0 a1).f0) = 1 then ((eddyref2_place.f k ((rd_T111 l0 a1).f1)).bind fun t285 => (if y282.length + t285.length < 140737488355328 then (some ((y282 ++ t285), wrap64 (a1 + 1))) else (none))) else (if ((rd_T111 l0 a1).f0) = 2 then (eddyref2_rank.l0 k y282 (wrap64 (a1 + 1)) 0 ((rd_T111 l0 a1).f0) ((rd_T111 l0 a1).f1) ((rd_T111 l0 a1).f2) ((rd_T111 l0 a1).f3)) else (if ((rd_T111 l0 a1).f0) = 3 then (eddyref2_rank.l1 k l0 y282 (wrap64 (a1 + 1)) 0 ((rd_T111 l0 a1).f0) ((rd_T111 l0 a1).f1) ((rd_T111 l0 a1).f2) ((rd_T111 l0 a1).f3)) else (some (y282, wrap64 (a1 + 1)))))) = some (r1, r2) := by first | (rw [hy282]; with_reducible exact H) | (have H2_ := (Option.bind_some _ _).symm.trans H; rw [hy282]; with_reducible exact H2_) | (have H2_ := (Option.bind_some _ _).symm.trans H; with_reducible exact H2_) | with_reducible exact H | (rw [hy282]; exact H) | exact H
      have Ny282 := Aside0.mk hy282
      clear hy282
      by_cases c5 : ((rd_T111 l0 a1).f0) = 1
      · rw [if_pos c5] at H
        have c5b0 : (((rd_T111 l0 a1).f0) == 1) = true := beq_iff_eq.mpr c5
        have c5b1 : (((rd_T111 l0 a1).f0) != 1) = false := bne_eq_false_iff_eq.mpr c5
        clear c5
        replace H := Option.bind_eq_some_iff.mp H
        obtain ⟨t285, A60, H⟩ := H
        replace H : (if y282.length + t285.length < 140737488355328 then (some ((y282 ++ t285), wrap64 (a1 + 1))) else (none)) = some (r1, r2) := H
        have A6 := Aside0.mk A60
        clear A60
        by_cases c7 : y282.length + t285.length < 140737488355328
        · rw [if_pos c7] at H
          have LMc7 := Aside0.mk c7
          clear c7
          obtain ⟨y288, hy288⟩ : ∃ y_ : List Int, y_ = (y282 ++ t285) := ⟨_, rfl⟩
          replace H : (some (y288, wrap64 (a1 + 1))) = some (r1, r2) := by first | (rw [hy288]; with_reducible exact H) | (have H2_ := (Option.bind_some _ _).symm.trans H; rw [hy288]; with_reducible exact H2_) | (have H2_ := (Option.bind_some _ _).symm.trans H; with_reducible exact H2_) | with_reducible exact H | (rw [hy288]; exact H) | exact H
          have Ny288 := Aside0.mk hy288
          clear hy288
          simp only [Option.some.injEq, Prod.mk.injEq] at H
          obtain ⟨rfl, rfl⟩ := H
          have p280 : 0 ≤ (a1 : Int) := of_decide_eq_true (by first | (with_reducible assumption) | assumption)
          have q280 : a1 < (l0.length : Int) := of_decide_eq_true (by first | (with_reducible assumption) | assumption)
          obtain ⟨ad280, e280, hx280_0, hx280_1, hx280_2, hx280_3⟩ := at_T111 HR0.out a1 p280 q280
          cases e280
          replace p280 := eq_true p280
          replace q280 := eq_true q280
          go_enter Try.func63, Try.ntmps63
          go_wp2_with (first | ((with_reducible refine gate_dst (N := 6) rfl ?_); refine box_event ?hg (N := 6) ?hd (cs := #[.int .i64 0, .int .i64 0, .string (⟨#[]⟩ : ByteArray), .int .i64 0]) (t := 111) ?hr ?_; (case hd => rfl); (case hg => rfl); (case hr => first | (go_simp; done) | (go_simp; rfl)); intro gb281 hg w8 hbox hb; have n0_ := Aside0.mk (below_step (by repeat (first | (with_reducible first | exact HB.out | apply below_alloc | apply pw_below_drewN | apply below_drew1) | exact HB.out)) hb); have n1_ := Aside0.mk (hbox); have n2_ := Aside0.mk ((by rw [hg]; exact (below_size (by repeat (first | (with_reducible first | exact HB.out | apply below_alloc | apply pw_below_drewN | apply below_drew1) | exact HB.out))) : w.heap.size ≤ gb281)); have n3_ := Aside0.mk ((by rw [hg]; exact (below_size (by repeat (first | (with_reducible first | exact HB.out | apply below_alloc | apply pw_below_drewN | apply below_drew1) | exact HB.out))) : w.heap.size ≤ gb281)); clear HB; have HB := n0_; have BK281 := n1_; have GW281 := n2_; have GE281 := n3_; clear n0_ n1_ n2_ n3_; clear hb hbox hg; have hcz9_0 : w8.cell? ⟨gb281, 0, none⟩ = some (.int .i64 0) := (blk_cell BK281.out 0).trans rfl; have hcz9_1 : w8.cell? ⟨gb281, 1, none⟩ = some (.int .i64 0) := (blk_cell BK281.out 1).trans rfl; have hcz9_2 : w8.cell? ⟨gb281, 2, none⟩ = some (.string (⟨#[]⟩ : ByteArray)) := (blk_cell BK281.out 2).trans rfl; have hcz9_3 : w8.cell? ⟨gb281, 3, none⟩ = some (.int .i64 0) := (blk_cell BK281.out 3).trans rfl; have hfz9_0 := blk_frozen BK281.out 0; have hfz9_1 := blk_frozen BK281.out 1; have hfz9_2 := blk_frozen BK281.out 2; have hfz9_3 := blk_frozen BK281.out 3) | ((with_reducible refine gate_dst (N := 21) rfl ?_); refine Kd.R_lit (Kd.int .u8) _ 5 ?hg (N := 21) ?hd (xs := ([(wrap64 (((rd_T111 l0 a1).f0) + 1)) % 256] : List Int)) (inner := [.int .u8 ((wrap64 (((rd_T111 l0 a1).f0) + 1)) % 256)]) (ok := fun _ => True) (okp := fun _ => True) ?hr ?hp (fun _ hk => hk) trivial (Below.refl _ _) (Nat.le_refl _) (by simp) ?_; (case hd => rfl); (case hg => rfl); (case hr => first | (go_simp; done) | (go_simp; rfl)); (case hp => exact (Reps.one (show Kd.M (Kd.int .u8) _ _ _ ((wrap64 (((rd_T111 l0 a1).f0) + 1)) % 256) [.int .u8 ((wrap64 (((rd_T111 l0 a1).f0) + 1)) % 256)] from rfl) (Reps.none _ _))); intro v283 w10 ho11 hb hg_ hnew_; clear hg_ hnew_; (first | rw [← Ny282.out] at ho11 | (simp only [Int.reduceToNat] at ho11; rw [← Ny282.out] at ho11)); have n0_ := Aside0.mk (Kd.R_lower ho11 (below_size (by repeat (first | (with_reducible first | exact HB.out | apply below_alloc | apply pw_below_drewN | apply below_drew1 | refine below_set ?_ GE281.out) | exact HB.out)))); have n1_ := Aside0.mk (blk_below (g := gb281) (o := .cells #[.int .i64 ((rd_T111 l0 a1).f0), .int .i64 ((rd_T111 l0 a1).f1), .string ((rd_T111 l0 a1).f2), .int .i64 ((rd_T111 l0 a1).f3)] 111 (0, 0)) (by (with_reducible repeat (first | refine blk_drewN ?_ _ | refine blk_drew ?_ | refine blk_alloc ?_ _)); refine blk_put (cs := #[.int .i64 ((rd_T111 l0 a1).f0), .int .i64 ((rd_T111 l0 a1).f1), .string ((rd_T111 l0 a1).f2), .int .i64 0]) ?_ 3 _ rfl; (with_reducible repeat (first | refine blk_drewN ?_ _ | refine blk_drew ?_ | refine blk_alloc ?_ _)); refine blk_put (cs := #[.int .i64 ((rd_T111 l0 a1).f0), .int .i64 ((rd_T111 l0 a1).f1), .string (⟨#[]⟩ : ByteArray), .int .i64 0]) ?_ 2 _ rfl; (with_reducible repeat (first | refine blk_drewN ?_ _ | refine blk_drew ?_ | refine blk_alloc ?_ _)); refine blk_put (cs := #[.int .i64 ((rd_T111 l0 a1).f0), .int .i64 0, .string (⟨#[]⟩ : ByteArray), .int .i64 0]) ?_ 1 _ rfl; (with_reducible repeat (first | refine blk_drewN ?_ _ | refine blk_drew ?_ | refine blk_alloc ?_ _)); refine blk_put (cs := #[.int .i64 0, .int .i64 0, .string (⟨#[]⟩ : ByteArray), .int .i64 0]) ?_ 0 _ rfl; (with_reducible repeat (first | refine blk_drewN ?_ _ | refine blk_drew ?_ | refine blk_alloc ?_ _)); exact BK281.out) hb); have n2_ := Aside0.mk (below_step (by repeat (first | (with_reducible first | exact HB.out | apply below_alloc | apply pw_below_drewN | apply below_drew1 | refine below_set ?_ GE281.out) | exact HB.out)) hb); clear BK281; clear HB; have HO284 := n0_; have BK281 := n1_; have HB := n2_; clear n0_ n1_ n2_; clear hb ho11; have hcz12_0 : w10.cell? ⟨gb281, 0, none⟩ = some (.int .i64 ((rd_T111 l0 a1).f0)) := (blk_cell BK281.out 0).trans rfl; have hcz12_1 : w10.cell? ⟨gb281, 1, none⟩ = some (.int .i64 ((rd_T111 l0 a1).f1)) := (blk_cell BK281.out 1).trans rfl; have hcz12_2 : w10.cell? ⟨gb281, 2, none⟩ = some (.string ((rd_T111 l0 a1).f2)) := (blk_cell BK281.out 2).trans rfl; have hcz12_3 : w10.cell? ⟨gb281, 3, none⟩ = some (.int .i64 ((rd_T111 l0 a1).f3)) := (blk_cell BK281.out 3).trans rfl; have hfz12_0 := blk_frozen BK281.out 0; have hfz12_1 := blk_frozen BK281.out 1; have hfz12_2 := blk_frozen BK281.out 2; have hfz12_3 := blk_frozen BK281.out 3) | ((with_reducible refine gate_callee (f := 66) rfl ?_); refine goesL_ (some 31) rfl rfl Try.func66 (by kernel_rfl) rfl #[.int .i64 ((rd_T111 l0 a1).f1)] rfl (by (try simp only [List.map_toArray, List.map_cons, List.map_nil]); first | done | rfl | (simp only [List.length_drop, List.length_take]; rfl)) ?_; (with_reducible refine (eddyref2_place.calls k ((rd_T111 l0 a1).f1) t285 _ A6.out).mono ?_); rintro e w13 ⟨v286, rfl, ho0, hb⟩; refine ⟨_, rfl, ?_⟩; have n0_ := Aside0.mk (Kd.R_elder' (by (with_reducible repeat (first | apply Kd.R_alloc | apply Kd.R_drewN | apply Kd.R_drew)); exact HO284.out) (Kd.R_base ho0) hb); have n1_ := Aside0.mk (Kd.R_lower (Kd.R_new' ho0 (Kd.R_lt (by (with_reducible repeat (first | apply Kd.R_alloc | apply Kd.R_drewN | apply Kd.R_drew)); exact HO284.out))) (below_size (by repeat (first | (with_reducible first | exact HB.out | apply below_alloc | apply pw_below_drewN | apply below_drew1 | refine below_set ?_ GE281.out) | exact HB.out)))); have n2_ := Aside0.mk (blk_below (g := gb281) (o := .cells #[.int .i64 ((rd_T111 l0 a1).f0), .int .i64 ((rd_T111 l0 a1).f1), .string ((rd_T111 l0 a1).f2), .int .i64 ((rd_T111 l0 a1).f3)] 111 (0, 0)) (by (with_reducible repeat (first | refine blk_drewN ?_ _ | refine blk_drew ?_ | refine blk_alloc ?_ _)); exact BK281.out) hb); have n3_ := Aside0.mk (below_step (by repeat (first | (with_reducible first | exact HB.out | apply below_alloc | apply pw_below_drewN | apply below_drew1 | refine below_set ?_ GE281.out) | exact HB.out)) hb); clear HO284; clear BK281; clear HB; have HO284 := n0_; have HO287 := n1_; have BK281 := n2_; have HB := n3_; clear n0_ n1_ n2_ n3_; (try clear hb); (try clear hb2); (try clear hk); (try clear hi); (try clear ho0); obtain ⟨Ao15, co15, eo15⟩ := Kd.R_slice HO287.out; subst eo15) | ((with_reducible refine gate_builtin (b := .append) (xs := #[.tmp 28, .tmp 31]) rfl ?_); at_builtin; refine Kd.R_append_rows (Kd.int .u8) (w0 := w) w.heap.size rfl (.tmp 28) (.tmp 31) 105 5 (.int .u8 0) 1 rfl Try.underlying105 info5 rfl (by decide) (by omega) v283 y282 t285 _ _ _ (fun k_ => some k_ ≠ (.slice Ao15 t285.length co15 : Value).ownBlock) (fun _ => False) rfl rfl ?aO ?aR (fun _ _ h => h) (fun _ h => h.elim) ?aF ?aB ?aS ?aL ?_; (case aR => repeat (first | exact (Kd.R_reads' HO287.out).2.2 | (with_reducible refine Kd.C_alloc ?_ _) | (with_reducible refine Kd.C_drewN ?_ _) | (with_reducible refine Kd.C_drew ?_))); (case aB => exact (by repeat (first | (with_reducible first | exact HB.out | apply below_alloc | apply pw_below_drewN | apply below_drew1 | refine below_set ?_ GE281.out) | exact HB.out))); (case aF => exact (fun k_ hk => Kd.fresh' (Kd.R_lt (by (with_reducible repeat (first | apply Kd.R_alloc | apply Kd.R_drewN | apply Kd.R_drew)); exact HO287.out)) k_ hk)); (case aO => exact (by (with_reducible repeat (first | apply Kd.R_alloc | apply Kd.R_drewN | apply Kd.R_drew)); exact Kd.R_mono HO284.out (fun _ hk => hk.2))); (case aS => exact (below_size (by repeat (first | (with_reducible first | exact HB.out | apply below_alloc | apply pw_below_drewN | apply below_drew1 | refine below_set ?_ GE281.out) | exact HB.out)))); (case aL => have := LMc7.out; omega); intro v289 w14 ho hb hg hat; rw [← Ny288.out] at ho; have n0_ := Aside0.mk (blk_grown (g := gb281) (o := .cells #[.int .i64 ((rd_T111 l0 a1).f0), .int .i64 ((rd_T111 l0 a1).f1), .string ((rd_T111 l0 a1).f2), .int .i64 ((rd_T111 l0 a1).f3)] 111 (0, 0)) (by (with_reducible repeat (first | refine blk_drewN ?_ _ | refine blk_drew ?_ | refine blk_alloc ?_ _)); exact BK281.out) hg (Kd.R_ne HO284.out BK281.out (by decide))); have n1_ := Aside0.mk (Kd.R_after (ok := (fun _ => True)) (by (with_reducible repeat (first | apply Kd.R_alloc | apply Kd.R_drewN | apply Kd.R_drew)); exact HO287.out) hg hat); have n2_ := Aside0.mk (hb); have n3_ := Aside0.mk (ho); clear BK281; clear HO287; clear HB; clear HO284; have BK281 := n0_; have HO287 := n1_; have HB := n2_; have HO290 := n3_; clear n0_ n1_ n2_ n3_; clear ho hb hg hat))
          go_ret2
          exact ⟨_, by first | rfl | (simp [errW_none, errW_some] <;> rfl) | (simp [*, errW_none, errW_some] <;> rfl), by (with_reducible repeat (first | apply Kd.R_alloc | apply Kd.R_drewN | apply Kd.R_drew)); exact Kd.R_mono HO290.out (fun _ hk => trivial), by repeat (first | (with_reducible first | exact HB.out | apply below_alloc | apply pw_below_drewN | apply below_drew1 | refine below_set ?_ GE281.out) | exact HB.out)⟩
        · rw [if_neg c7] at H
          exact absurd H (by simp)
      · rw [if_neg c5] at H
        have c5b0 : (((rd_T111 l0 a1).f0) == 1) = false := beq_eq_false_iff_ne.mpr c5
        have c5b1 : (((rd_T111 l0 a1).f0) != 1) = true := bne_iff_ne.mpr c5
        by_cases c16 : ((rd_T111 l0 a1).f0) = 2
        · rw [if_pos c16] at H
          have c16b0 : (((rd_T111 l0 a1).f0) == 2) = true := beq_iff_eq.mpr c16
          have c16b1 : (((rd_T111 l0 a1).f0) != 2) = false := bne_eq_false_iff_eq.mpr c16
          clear c16
          have H' := Aside0.mk H
          clear H
          have p280 : 0 ≤ (a1 : Int) := of_decide_eq_true (by first | (with_reducible assumption) | assumption)
          have q280 : a1 < (l0.length : Int) := of_decide_eq_true (by first | (with_reducible assumption) | assumption)
          obtain ⟨ad280, e280, hx280_0, hx280_1, hx280_2, hx280_3⟩ := at_T111 HR0.out a1 p280 q280
          cases e280
          replace p280 := eq_true p280
          replace q280 := eq_true q280
          go_enter Try.func63, Try.ntmps63
          go_wp2_with (first | ((with_reducible refine gate_dst (N := 6) rfl ?_); refine box_event ?hg (N := 6) ?hd (cs := #[.int .i64 0, .int .i64 0, .string (⟨#[]⟩ : ByteArray), .int .i64 0]) (t := 111) ?hr ?_; (case hd => rfl); (case hg => rfl); (case hr => first | (go_simp; done) | (go_simp; rfl)); intro gb281 hg w17 hbox hb; have n0_ := Aside0.mk (below_step (by repeat (first | (with_reducible first | exact HB.out | apply below_alloc | apply pw_below_drewN | apply below_drew1) | exact HB.out)) hb); have n1_ := Aside0.mk (hbox); have n2_ := Aside0.mk ((by rw [hg]; exact (below_size (by repeat (first | (with_reducible first | exact HB.out | apply below_alloc | apply pw_below_drewN | apply below_drew1) | exact HB.out))) : w.heap.size ≤ gb281)); have n3_ := Aside0.mk ((by rw [hg]; exact (below_size (by repeat (first | (with_reducible first | exact HB.out | apply below_alloc | apply pw_below_drewN | apply below_drew1) | exact HB.out))) : w.heap.size ≤ gb281)); clear HB; have HB := n0_; have BK281 := n1_; have GW281 := n2_; have GE281 := n3_; clear n0_ n1_ n2_ n3_; clear hb hbox hg; have hcz18_0 : w17.cell? ⟨gb281, 0, none⟩ = some (.int .i64 0) := (blk_cell BK281.out 0).trans rfl; have hcz18_1 : w17.cell? ⟨gb281, 1, none⟩ = some (.int .i64 0) := (blk_cell BK281.out 1).trans rfl; have hcz18_2 : w17.cell? ⟨gb281, 2, none⟩ = some (.string (⟨#[]⟩ : ByteArray)) := (blk_cell BK281.out 2).trans rfl; have hcz18_3 : w17.cell? ⟨gb281, 3, none⟩ = some (.int .i64 0) := (blk_cell BK281.out 3).trans rfl; have hfz18_0 := blk_frozen BK281.out 0; have hfz18_1 := blk_frozen BK281.out 1; have hfz18_2 := blk_frozen BK281.out 2; have hfz18_3 := blk_frozen BK281.out 3) | ((with_reducible refine gate_dst (N := 21) rfl ?_); refine Kd.R_lit (Kd.int .u8) _ 5 ?hg (N := 21) ?hd (xs := ([(wrap64 (((rd_T111 l0 a1).f0) + 1)) % 256] : List Int)) (inner := [.int .u8 ((wrap64 (((rd_T111 l0 a1).f0) + 1)) % 256)]) (ok := fun _ => True) (okp := fun _ => True) ?hr ?hp (fun _ hk => hk) trivial (Below.refl _ _) (Nat.le_refl _) (by simp) ?_; (case hd => rfl); (case hg => rfl); (case hr => first | (go_simp; done) | (go_simp; rfl)); (case hp => exact (Reps.one (show Kd.M (Kd.int .u8) _ _ _ ((wrap64 (((rd_T111 l0 a1).f0) + 1)) % 256) [.int .u8 ((wrap64 (((rd_T111 l0 a1).f0) + 1)) % 256)] from rfl) (Reps.none _ _))); intro v283 w19 ho20 hb hg_ hnew_; clear hg_ hnew_; (first | rw [← Ny282.out] at ho20 | (simp only [Int.reduceToNat] at ho20; rw [← Ny282.out] at ho20)); have n0_ := Aside0.mk (Kd.R_lower ho20 (below_size (by repeat (first | (with_reducible first | exact HB.out | apply below_alloc | apply pw_below_drewN | apply below_drew1 | refine below_set ?_ GE281.out) | exact HB.out)))); have n1_ := Aside0.mk (blk_below (g := gb281) (o := .cells #[.int .i64 ((rd_T111 l0 a1).f0), .int .i64 ((rd_T111 l0 a1).f1), .string ((rd_T111 l0 a1).f2), .int .i64 ((rd_T111 l0 a1).f3)] 111 (0, 0)) (by (with_reducible repeat (first | refine blk_drewN ?_ _ | refine blk_drew ?_ | refine blk_alloc ?_ _)); refine blk_put (cs := #[.int .i64 ((rd_T111 l0 a1).f0), .int .i64 ((rd_T111 l0 a1).f1), .string ((rd_T111 l0 a1).f2), .int .i64 0]) ?_ 3 _ rfl; (with_reducible repeat (first | refine blk_drewN ?_ _ | refine blk_drew ?_ | refine blk_alloc ?_ _)); refine blk_put (cs := #[.int .i64 ((rd_T111 l0 a1).f0), .int .i64 ((rd_T111 l0 a1).f1), .string (⟨#[]⟩ : ByteArray), .int .i64 0]) ?_ 2 _ rfl; (with_reducible repeat (first | refine blk_drewN ?_ _ | refine blk_drew ?_ | refine blk_alloc ?_ _)); refine blk_put (cs := #[.int .i64 ((rd_T111 l0 a1).f0), .int .i64 0, .string (⟨#[]⟩ : ByteArray), .int .i64 0]) ?_ 1 _ rfl; (with_reducible repeat (first | refine blk_drewN ?_ _ | refine blk_drew ?_ | refine blk_alloc ?_ _)); refine blk_put (cs := #[.int .i64 0, .int .i64 0, .string (⟨#[]⟩ : ByteArray), .int .i64 0]) ?_ 0 _ rfl; (with_reducible repeat (first | refine blk_drewN ?_ _ | refine blk_drew ?_ | refine blk_alloc ?_ _)); exact BK281.out) hb); have n2_ := Aside0.mk (below_step (by repeat (first | (with_reducible first | exact HB.out | apply below_alloc | apply pw_below_drewN | apply below_drew1 | refine below_set ?_ GE281.out) | exact HB.out)) hb); clear BK281; clear HB; have HO284 := n0_; have BK281 := n1_; have HB := n2_; clear n0_ n1_ n2_; clear hb ho20; have hcz21_0 : w19.cell? ⟨gb281, 0, none⟩ = some (.int .i64 ((rd_T111 l0 a1).f0)) := (blk_cell BK281.out 0).trans rfl; have hcz21_1 : w19.cell? ⟨gb281, 1, none⟩ = some (.int .i64 ((rd_T111 l0 a1).f1)) := (blk_cell BK281.out 1).trans rfl; have hcz21_2 : w19.cell? ⟨gb281, 2, none⟩ = some (.string ((rd_T111 l0 a1).f2)) := (blk_cell BK281.out 2).trans rfl; have hcz21_3 : w19.cell? ⟨gb281, 3, none⟩ = some (.int .i64 ((rd_T111 l0 a1).f3)) := (blk_cell BK281.out 3).trans rfl; have hfz21_0 := blk_frozen BK281.out 0; have hfz21_1 := blk_frozen BK281.out 1; have hfz21_2 := blk_frozen BK281.out 2; have hfz21_3 := blk_frozen BK281.out 3))
          go_loopg [7, 9] k (fun kq v7 v9 w' => ∃ (x7_1 : List Int) (x9_1 : Int), v9 = .int .i64 x9_1 ∧ Aside0 (eddyref2_rank.l0 kq x7_1 (wrap64 (a1 + 1)) x9_1 ((rd_T111 l0 a1).f0) ((rd_T111 l0 a1).f1) ((rd_T111 l0 a1).f2) ((rd_T111 l0 a1).f3) = some (r1, r2)) ∧ Aside0 (kq ≤ k) ∧ Aside0 (Kd.R (Kd.int .u8) 5 w' w.heap.size (fun _ => True) v7 x7_1) ∧ Aside0 (w'.heap[gb281]? = some (.cells #[.int .i64 ((rd_T111 l0 a1).f0), .int .i64 ((rd_T111 l0 a1).f1), .string ((rd_T111 l0 a1).f2), .int .i64 ((rd_T111 l0 a1).f3)] 111 (0, 0))) ∧ Aside0 (Below w.heap.size w w'))
          case atStart => exact ⟨(y282), (0), (by first | rfl | (simp; done) | (simp [*]; done)), H', ⟨Nat.le_refl _⟩, ⟨by (with_reducible repeat (first | apply Kd.R_alloc | apply Kd.R_drewN | apply Kd.R_drew)); exact HO284.out⟩, ⟨by (with_reducible repeat (first | refine blk_drewN ?_ _ | refine blk_drew ?_ | refine blk_alloc ?_ _)); exact BK281.out⟩, ⟨by repeat (first | (with_reducible first | exact HB.out | apply below_alloc | apply pw_below_drewN | apply below_drew1 | refine below_set ?_ GE281.out) | exact HB.out)⟩⟩
          case round =>
            clear H'
            try clear c1
            try clear p2
            try clear q2
            try clear hx2
            try clear c3
            try clear c3b0
            try clear c4
            try clear c4b0
            try clear c5
            try clear c5b0
            try clear c5b1
            try clear c6
            try clear p6
            try clear c7
            try clear c16
            try clear c16b0
            try clear c16b1
            try clear hcz12_0
            try clear hcz12_1
            try clear hcz12_2
            try clear hcz12_3
            try clear hcz18_0
            try clear hcz18_1
            try clear hcz18_2
            try clear hcz18_3
            try clear hcz21_0
            try clear hcz21_1
            try clear hcz21_2
            try clear hcz21_3
            try clear hcz9_0
            try clear hcz9_1
            try clear hcz9_2
            try clear hcz9_3
            try clear hfz12_0
            try clear hfz12_1
            try clear hfz12_2
            try clear hfz12_3
            try clear hfz18_0
            try clear hfz18_1
            try clear hfz18_2
            try clear hfz18_3
            try clear hfz21_0
            try clear hfz21_1
            try clear hfz21_2
            try clear hfz21_3
            try clear hfz9_0
            try clear hfz9_1
            try clear hfz9_2
            try clear hfz9_3
            try clear hx280_0
            try clear hx280_1
            try clear hx280_2
            try clear hx280_3
            try clear p280
            try clear q280
            obtain ⟨x7_1, x9_1, rfl, HA, HK1, HO_7, BK281, HB⟩ := hrel
            cases gk with
            | zero => exact absurd HA.out (by simp [eddyref2_rank.l0])
            | succ k1 =>
              have H := HA.out
              clear HA
              simp only [eddyref2_rank.l0] at H
              by_cases c22 : x9_1 < (((rd_T111 l0 a1).f2).size : Int)
              · rw [if_pos c22] at H
                have c22b0 : decide (x9_1 < (((rd_T111 l0 a1).f2).size : Int)) = true := decide_eq_true c22
                clear c22
                by_cases c23 : 0 ≤ x9_1
                · rw [if_pos c23] at H
                  have c23b0 : decide (0 ≤ x9_1) = true := decide_eq_true c23
                  clear c23
                  by_cases c25 : x7_1.length < 140737488355328
                  · rw [if_pos c25] at H
                    have LMc25 := Aside0.mk c25
                    clear c25
                    obtain ⟨y291, hy291⟩ : ∃ y_ : List Int, y_ = (x7_1 ++ [bt ((rd_T111 l0 a1).f2) x9_1]) := ⟨_, rfl⟩
                    replace H : (if (bt ((rd_T111 l0 a1).f2) x9_1) = 0 then (if y291.length < 140737488355328 then (eddyref2_rank.l0 k1 (y291 ++ [255]) (wrap64 (a1 + 1)) (wrap64 (x9_1 + 1)) ((rd_T111 l0 a1).f0) ((rd_T111 l0 a1).f1) ((rd_T111 l0 a1).f2) ((rd_T111 l0 a1).f3)) else (none)) else (eddyref2_rank.l0 k1 y291 (wrap64 (a1 + 1)) (wrap64 (x9_1 + 1)) ((rd_T111 l0 a1).f0) ((rd_T111 l0 a1).f1) ((rd_T111 l0 a1).f2) ((rd_T111 l0 a1).f3))) = some (r1, r2) := by first | (rw [hy291]; with_reducible exact H) | (have H2_ := (Option.bind_some _ _).symm.trans H; rw [hy291]; with_reducible exact H2_) | (have H2_ := (Option.bind_some _ _).symm.trans H; with_reducible exact H2_) | with_reducible exact H | (rw [hy291]; exact H) | exact H
                    have Ny291 := Aside0.mk hy291
                    clear hy291
                    by_cases c27 : (bt ((rd_T111 l0 a1).f2) x9_1) = 0
                    · rw [if_pos c27] at H
                      have c27b0 : ((bt ((rd_T111 l0 a1).f2) x9_1) == 0) = true := beq_iff_eq.mpr c27
                      have c27b1 : ((bt ((rd_T111 l0 a1).f2) x9_1) != 0) = false := bne_eq_false_iff_eq.mpr c27
                      clear c27
                      by_cases c28 : y291.length < 140737488355328
                      · rw [if_pos c28] at H
                        have LMc28 := Aside0.mk c28
                        clear c28
                        obtain ⟨y294, hy294⟩ : ∃ y_ : List Int, y_ = (y291 ++ [255]) := ⟨_, rfl⟩
                        replace H : (eddyref2_rank.l0 k1 y294 (wrap64 (a1 + 1)) (wrap64 (x9_1 + 1)) ((rd_T111 l0 a1).f0) ((rd_T111 l0 a1).f1) ((rd_T111 l0 a1).f2) ((rd_T111 l0 a1).f3)) = some (r1, r2) := by first | (rw [hy294]; with_reducible exact H) | (have H2_ := (Option.bind_some _ _).symm.trans H; rw [hy294]; with_reducible exact H2_) | (have H2_ := (Option.bind_some _ _).symm.trans H; with_reducible exact H2_) | with_reducible exact H | (rw [hy294]; exact H) | exact H
                        have Ny294 := Aside0.mk hy294
                        clear hy294
                        have H' := Aside0.mk H
                        clear H
                        have hcz29_0 : wr.cell? ⟨gb281, 0, none⟩ = some (.int .i64 ((rd_T111 l0 a1).f0)) := (blk_cell BK281.out 0).trans rfl
                        have hcz29_1 : wr.cell? ⟨gb281, 1, none⟩ = some (.int .i64 ((rd_T111 l0 a1).f1)) := (blk_cell BK281.out 1).trans rfl
                        have hcz29_2 : wr.cell? ⟨gb281, 2, none⟩ = some (.string ((rd_T111 l0 a1).f2)) := (blk_cell BK281.out 2).trans rfl
                        have hcz29_3 : wr.cell? ⟨gb281, 3, none⟩ = some (.int .i64 ((rd_T111 l0 a1).f3)) := (blk_cell BK281.out 3).trans rfl
                        have hfz29_0 := blk_frozen BK281.out 0
                        have hfz29_1 := blk_frozen BK281.out 1
                        have hfz29_2 := blk_frozen BK281.out 2
                        have hfz29_3 := blk_frozen BK281.out 3
                        have p24 : 0 ≤ (x9_1 : Int) := of_decide_eq_true (by first | (with_reducible assumption) | assumption)
                        have q24 : x9_1 < (((rd_T111 l0 a1).f2).size : Int) := of_decide_eq_true (by first | (with_reducible assumption) | assumption)
                        have hx24 := bt_at ((rd_T111 l0 a1).f2) x9_1
                        replace p24 := eq_true p24
                        replace q24 := eq_true q24
                        go_wp2_with (first | ((with_reducible refine gate_builtin (b := .append) (xs := #[.tmp 42, .tmp 47]) rfl ?_); at_builtin; refine Kd.R_append (Kd.int .u8) (w0 := w) w.heap.size rfl (.tmp 42) (.tmp 47) 105 5 (.int .u8 0) 1 rfl Try.underlying105 info5 rfl (by decide) (by omega) u7 x7_1 (bt ((rd_T111 l0 a1).f2) x9_1) [.int .u8 (bt ((rd_T111 l0 a1).f2) x9_1)] (fun _ => True) (fun _ => False) rfl rfl ?aP (fun _ hk => hk.elim) ?aF ?aO ?aB ?aS ?aL ?_; (case aP => exact rfl); (case aB => exact (by repeat (first | (with_reducible first | exact HB.out | apply below_alloc | apply pw_below_drewN | apply below_drew1 | refine below_set ?_ GE281.out) | exact HB.out))); (case aF => exact (fun _ _ => trivial)); (case aO => exact (by (with_reducible repeat (first | apply Kd.R_alloc | apply Kd.R_drewN | apply Kd.R_drew)); exact HO_7.out)); (case aS => exact (below_size (by repeat (first | (with_reducible first | exact HB.out | apply below_alloc | apply pw_below_drewN | apply below_drew1 | refine below_set ?_ GE281.out) | exact HB.out)))); (case aL => have := LMc25.out; omega); intro v292 w30 ho hb hg hat; rw [← Ny291.out] at ho; have n0_ := Aside0.mk (blk_grown (g := gb281) (o := .cells #[.int .i64 ((rd_T111 l0 a1).f0), .int .i64 ((rd_T111 l0 a1).f1), .string ((rd_T111 l0 a1).f2), .int .i64 ((rd_T111 l0 a1).f3)] 111 (0, 0)) (by (with_reducible repeat (first | refine blk_drewN ?_ _ | refine blk_drew ?_ | refine blk_alloc ?_ _)); exact BK281.out) hg (Kd.R_ne HO_7.out BK281.out (by decide))); have n1_ := Aside0.mk (hb); have n2_ := Aside0.mk (ho); clear BK281; clear HB; clear HO_7; have BK281 := n0_; have HB := n1_; have HO293 := n2_; clear n0_ n1_ n2_; clear ho hb hg hat; have hcz31_0 : w30.cell? ⟨gb281, 0, none⟩ = some (.int .i64 ((rd_T111 l0 a1).f0)) := (blk_cell BK281.out 0).trans rfl; have hcz31_1 : w30.cell? ⟨gb281, 1, none⟩ = some (.int .i64 ((rd_T111 l0 a1).f1)) := (blk_cell BK281.out 1).trans rfl; have hcz31_2 : w30.cell? ⟨gb281, 2, none⟩ = some (.string ((rd_T111 l0 a1).f2)) := (blk_cell BK281.out 2).trans rfl; have hcz31_3 : w30.cell? ⟨gb281, 3, none⟩ = some (.int .i64 ((rd_T111 l0 a1).f3)) := (blk_cell BK281.out 3).trans rfl; have hfz31_0 := blk_frozen BK281.out 0; have hfz31_1 := blk_frozen BK281.out 1; have hfz31_2 := blk_frozen BK281.out 2; have hfz31_3 := blk_frozen BK281.out 3; have p26 : 0 ≤ (x9_1 : Int) := of_decide_eq_true (by first | (with_reducible assumption) | assumption); have q26 : x9_1 < (((rd_T111 l0 a1).f2).size : Int) := of_decide_eq_true (by first | (with_reducible assumption) | assumption); have hx26 := bt_at ((rd_T111 l0 a1).f2) x9_1; replace p26 := eq_true p26; replace q26 := eq_true q26) | ((with_reducible refine gate_builtin (b := .append) (xs := #[.tmp 54, .tmp 55]) rfl ?_); at_builtin; refine Kd.R_append (Kd.int .u8) (w0 := w) w.heap.size rfl (.tmp 54) (.tmp 55) 105 5 (.int .u8 0) 1 rfl Try.underlying105 info5 rfl (by decide) (by omega) v292 y291 255 [.int .u8 255] (fun _ => True) (fun _ => False) rfl rfl ?aP (fun _ hk => hk.elim) ?aF ?aO ?aB ?aS ?aL ?_; (case aP => exact rfl); (case aB => exact (by repeat (first | (with_reducible first | exact HB.out | apply below_alloc | apply pw_below_drewN | apply below_drew1 | refine below_set ?_ GE281.out) | exact HB.out))); (case aF => exact (fun _ _ => trivial)); (case aO => exact (by (with_reducible repeat (first | apply Kd.R_alloc | apply Kd.R_drewN | apply Kd.R_drew)); exact HO293.out)); (case aS => exact (below_size (by repeat (first | (with_reducible first | exact HB.out | apply below_alloc | apply pw_below_drewN | apply below_drew1 | refine below_set ?_ GE281.out) | exact HB.out)))); (case aL => have := LMc28.out; omega); intro v295 w32 ho hb hg hat; rw [← Ny294.out] at ho; have n0_ := Aside0.mk (blk_grown (g := gb281) (o := .cells #[.int .i64 ((rd_T111 l0 a1).f0), .int .i64 ((rd_T111 l0 a1).f1), .string ((rd_T111 l0 a1).f2), .int .i64 ((rd_T111 l0 a1).f3)] 111 (0, 0)) (by (with_reducible repeat (first | refine blk_drewN ?_ _ | refine blk_drew ?_ | refine blk_alloc ?_ _)); exact BK281.out) hg (Kd.R_ne HO293.out BK281.out (by decide))); have n1_ := Aside0.mk (hb); have n2_ := Aside0.mk (ho); clear BK281; clear HB; clear HO293; have BK281 := n0_; have HB := n1_; have HO296 := n2_; clear n0_ n1_ n2_; clear ho hb hg hat))
                        go_roundg k1
                        case measure => have := HK1.out; omega
                        case rel => exact ⟨(y294), (wrap64 (x9_1 + 1)), (by first | rfl | (simp; done) | (simp [*]; done)), H', ⟨by have := HK1.out; omega⟩, ⟨by (with_reducible repeat (first | apply Kd.R_alloc | apply Kd.R_drewN | apply Kd.R_drew)); exact HO296.out⟩, ⟨by (with_reducible repeat (first | refine blk_drewN ?_ _ | refine blk_drew ?_ | refine blk_alloc ?_ _)); exact BK281.out⟩, ⟨by repeat (first | (with_reducible first | exact HB.out | apply below_alloc | apply pw_below_drewN | apply below_drew1 | refine below_set ?_ GE281.out) | exact HB.out)⟩⟩
                      · rw [if_neg c28] at H
                        exact absurd H (by simp)
                    · rw [if_neg c27] at H
                      have c27b0 : ((bt ((rd_T111 l0 a1).f2) x9_1) == 0) = false := beq_eq_false_iff_ne.mpr c27
                      have c27b1 : ((bt ((rd_T111 l0 a1).f2) x9_1) != 0) = true := bne_iff_ne.mpr c27
                      have H' := Aside0.mk H
                      clear H
                      have hcz33_0 : wr.cell? ⟨gb281, 0, none⟩ = some (.int .i64 ((rd_T111 l0 a1).f0)) := (blk_cell BK281.out 0).trans rfl
                      have hcz33_1 : wr.cell? ⟨gb281, 1, none⟩ = some (.int .i64 ((rd_T111 l0 a1).f1)) := (blk_cell BK281.out 1).trans rfl
                      have hcz33_2 : wr.cell? ⟨gb281, 2, none⟩ = some (.string ((rd_T111 l0 a1).f2)) := (blk_cell BK281.out 2).trans rfl
                      have hcz33_3 : wr.cell? ⟨gb281, 3, none⟩ = some (.int .i64 ((rd_T111 l0 a1).f3)) := (blk_cell BK281.out 3).trans rfl
                      have hfz33_0 := blk_frozen BK281.out 0
                      have hfz33_1 := blk_frozen BK281.out 1
                      have hfz33_2 := blk_frozen BK281.out 2
                      have hfz33_3 := blk_frozen BK281.out 3
                      have p24 : 0 ≤ (x9_1 : Int) := of_decide_eq_true (by first | (with_reducible assumption) | assumption)
                      have q24 : x9_1 < (((rd_T111 l0 a1).f2).size : Int) := of_decide_eq_true (by first | (with_reducible assumption) | assumption)
                      have hx24 := bt_at ((rd_T111 l0 a1).f2) x9_1
                      replace p24 := eq_true p24
                      replace q24 := eq_true q24
                      go_wp2_with (first | ((with_reducible refine gate_builtin (b := .append) (xs := #[.tmp 42, .tmp 47]) rfl ?_); at_builtin; refine Kd.R_append (Kd.int .u8) (w0 := w) w.heap.size rfl (.tmp 42) (.tmp 47) 105 5 (.int .u8 0) 1 rfl Try.underlying105 info5 rfl (by decide) (by omega) u7 x7_1 (bt ((rd_T111 l0 a1).f2) x9_1) [.int .u8 (bt ((rd_T111 l0 a1).f2) x9_1)] (fun _ => True) (fun _ => False) rfl rfl ?aP (fun _ hk => hk.elim) ?aF ?aO ?aB ?aS ?aL ?_; (case aP => exact rfl); (case aB => exact (by repeat (first | (with_reducible first | exact HB.out | apply below_alloc | apply pw_below_drewN | apply below_drew1 | refine below_set ?_ GE281.out) | exact HB.out))); (case aF => exact (fun _ _ => trivial)); (case aO => exact (by (with_reducible repeat (first | apply Kd.R_alloc | apply Kd.R_drewN | apply Kd.R_drew)); exact HO_7.out)); (case aS => exact (below_size (by repeat (first | (with_reducible first | exact HB.out | apply below_alloc | apply pw_below_drewN | apply below_drew1 | refine below_set ?_ GE281.out) | exact HB.out)))); (case aL => have := LMc25.out; omega); intro v292 w34 ho hb hg hat; rw [← Ny291.out] at ho; have n0_ := Aside0.mk (blk_grown (g := gb281) (o := .cells #[.int .i64 ((rd_T111 l0 a1).f0), .int .i64 ((rd_T111 l0 a1).f1), .string ((rd_T111 l0 a1).f2), .int .i64 ((rd_T111 l0 a1).f3)] 111 (0, 0)) (by (with_reducible repeat (first | refine blk_drewN ?_ _ | refine blk_drew ?_ | refine blk_alloc ?_ _)); exact BK281.out) hg (Kd.R_ne HO_7.out BK281.out (by decide))); have n1_ := Aside0.mk (hb); have n2_ := Aside0.mk (ho); clear BK281; clear HB; clear HO_7; have BK281 := n0_; have HB := n1_; have HO293 := n2_; clear n0_ n1_ n2_; clear ho hb hg hat; have hcz35_0 : w34.cell? ⟨gb281, 0, none⟩ = some (.int .i64 ((rd_T111 l0 a1).f0)) := (blk_cell BK281.out 0).trans rfl; have hcz35_1 : w34.cell? ⟨gb281, 1, none⟩ = some (.int .i64 ((rd_T111 l0 a1).f1)) := (blk_cell BK281.out 1).trans rfl; have hcz35_2 : w34.cell? ⟨gb281, 2, none⟩ = some (.string ((rd_T111 l0 a1).f2)) := (blk_cell BK281.out 2).trans rfl; have hcz35_3 : w34.cell? ⟨gb281, 3, none⟩ = some (.int .i64 ((rd_T111 l0 a1).f3)) := (blk_cell BK281.out 3).trans rfl; have hfz35_0 := blk_frozen BK281.out 0; have hfz35_1 := blk_frozen BK281.out 1; have hfz35_2 := blk_frozen BK281.out 2; have hfz35_3 := blk_frozen BK281.out 3; have p26 : 0 ≤ (x9_1 : Int) := of_decide_eq_true (by first | (with_reducible assumption) | assumption); have q26 : x9_1 < (((rd_T111 l0 a1).f2).size : Int) := of_decide_eq_true (by first | (with_reducible assumption) | assumption); have hx26 := bt_at ((rd_T111 l0 a1).f2) x9_1; replace p26 := eq_true p26; replace q26 := eq_true q26))
                      go_roundg k1
                      case measure => have := HK1.out; omega
                      case rel => exact ⟨(y291), (wrap64 (x9_1 + 1)), (by first | rfl | (simp; done) | (simp [*]; done)), H', ⟨by have := HK1.out; omega⟩, ⟨by (with_reducible repeat (first | apply Kd.R_alloc | apply Kd.R_drewN | apply Kd.R_drew)); exact HO293.out⟩, ⟨by (with_reducible repeat (first | refine blk_drewN ?_ _ | refine blk_drew ?_ | refine blk_alloc ?_ _)); exact BK281.out⟩, ⟨by repeat (first | (with_reducible first | exact HB.out | apply below_alloc | apply pw_below_drewN | apply below_drew1 | refine below_set ?_ GE281.out) | exact HB.out)⟩⟩
                  · rw [if_neg c25] at H
                    exact absurd H (by simp)
                · rw [if_neg c23] at H
                  exact absurd H (by simp)
              · rw [if_neg c22] at H
                have c22b0 : decide (x9_1 < (((rd_T111 l0 a1).f2).size : Int)) = false := decide_eq_false c22
                clear c22
                obtain ⟨y297, hy297⟩ : ∃ y_ : List Int, y_ = (([0, 0] : List Int)) := ⟨_, rfl⟩
                replace H : (if x7_1.length + y297.length < 140737488355328 then (some ((x7_1 ++ y297), (wrap64 (a1 + 1)))) else (none)) = some (r1, r2) := by first | (rw [hy297]; with_reducible exact H) | (have H2_ := (Option.bind_some _ _).symm.trans H; rw [hy297]; with_reducible exact H2_) | (have H2_ := (Option.bind_some _ _).symm.trans H; with_reducible exact H2_) | with_reducible exact H | (rw [hy297]; exact H) | exact H
                have Ny297 := Aside0.mk hy297
                clear hy297
                by_cases c36 : x7_1.length + y297.length < 140737488355328
                · rw [if_pos c36] at H
                  have LMc36 := Aside0.mk c36
                  clear c36
                  obtain ⟨y300, hy300⟩ : ∃ y_ : List Int, y_ = (x7_1 ++ y297) := ⟨_, rfl⟩
                  replace H : (some (y300, (wrap64 (a1 + 1)))) = some (r1, r2) := by first | (rw [hy300]; with_reducible exact H) | (have H2_ := (Option.bind_some _ _).symm.trans H; rw [hy300]; with_reducible exact H2_) | (have H2_ := (Option.bind_some _ _).symm.trans H; with_reducible exact H2_) | with_reducible exact H | (rw [hy300]; exact H) | exact H
                  have Ny300 := Aside0.mk hy300
                  clear hy300
                  simp only [Option.some.injEq, Prod.mk.injEq] at H
                  obtain ⟨rfl, rfl⟩ := H
                  have hcz37_0 : wr.cell? ⟨gb281, 0, none⟩ = some (.int .i64 ((rd_T111 l0 a1).f0)) := (blk_cell BK281.out 0).trans rfl
                  have hcz37_1 : wr.cell? ⟨gb281, 1, none⟩ = some (.int .i64 ((rd_T111 l0 a1).f1)) := (blk_cell BK281.out 1).trans rfl
                  have hcz37_2 : wr.cell? ⟨gb281, 2, none⟩ = some (.string ((rd_T111 l0 a1).f2)) := (blk_cell BK281.out 2).trans rfl
                  have hcz37_3 : wr.cell? ⟨gb281, 3, none⟩ = some (.int .i64 ((rd_T111 l0 a1).f3)) := (blk_cell BK281.out 3).trans rfl
                  have hfz37_0 := blk_frozen BK281.out 0
                  have hfz37_1 := blk_frozen BK281.out 1
                  have hfz37_2 := blk_frozen BK281.out 2
                  have hfz37_3 := blk_frozen BK281.out 3
                  go_wp2_with (first | ((with_reducible refine gate_dst (N := 58) rfl ?_); refine Kd.R_lit (Kd.int .u8) _ 5 ?hg (N := 58) ?hd (xs := ([0, 0] : List Int)) (inner := [.int .u8 0, .int .u8 0]) (ok := fun _ => True) (okp := fun _ => True) ?hr ?hp (fun _ hk => hk) trivial (Below.refl _ _) (Nat.le_refl _) (by simp) ?_; (case hd => rfl); (case hg => rfl); (case hr => first | (go_simp; done) | (go_simp; rfl)); (case hp => exact (Reps.one (show Kd.M (Kd.int .u8) _ _ _ 0 [.int .u8 0] from rfl) (Reps.one (show Kd.M (Kd.int .u8) _ _ _ 0 [.int .u8 0] from rfl) (Reps.none _ _)))); intro v298 w38 ho39 hb hg_ hnew_; clear hg_ hnew_; (first | rw [← Ny297.out] at ho39 | (simp only [Int.reduceToNat] at ho39; rw [← Ny297.out] at ho39)); have n0_ := Aside0.mk (Kd.R_elder' (by (with_reducible repeat (first | apply Kd.R_alloc | apply Kd.R_drewN | apply Kd.R_drew)); exact HO_7.out) (Kd.R_base ho39) hb); have n1_ := Aside0.mk (Kd.R_lower (Kd.R_new' ho39 (Kd.R_lt (by (with_reducible repeat (first | apply Kd.R_alloc | apply Kd.R_drewN | apply Kd.R_drew)); exact HO_7.out))) (below_size (by repeat (first | (with_reducible first | exact HB.out | apply below_alloc | apply pw_below_drewN | apply below_drew1 | refine below_set ?_ GE281.out) | exact HB.out)))); have n2_ := Aside0.mk (blk_below (g := gb281) (o := .cells #[.int .i64 ((rd_T111 l0 a1).f0), .int .i64 ((rd_T111 l0 a1).f1), .string ((rd_T111 l0 a1).f2), .int .i64 ((rd_T111 l0 a1).f3)] 111 (0, 0)) (by (with_reducible repeat (first | refine blk_drewN ?_ _ | refine blk_drew ?_ | refine blk_alloc ?_ _)); exact BK281.out) hb); have n3_ := Aside0.mk (below_step (by repeat (first | (with_reducible first | exact HB.out | apply below_alloc | apply pw_below_drewN | apply below_drew1 | refine below_set ?_ GE281.out) | exact HB.out)) hb); clear HO_7; clear BK281; clear HB; have HO_7 := n0_; have HO299 := n1_; have BK281 := n2_; have HB := n3_; clear n0_ n1_ n2_ n3_; clear hb ho39; obtain ⟨Ao41, co41, eo41⟩ := Kd.R_slice HO299.out; subst eo41) | ((with_reducible refine gate_builtin (b := .append) (xs := #[.tmp 57, .tmp 58]) rfl ?_); at_builtin; refine Kd.R_append_rows (Kd.int .u8) (w0 := w) w.heap.size rfl (.tmp 57) (.tmp 58) 105 5 (.int .u8 0) 1 rfl Try.underlying105 info5 rfl (by decide) (by omega) u7 x7_1 y297 _ _ _ (fun k_ => some k_ ≠ (.slice Ao41 y297.length co41 : Value).ownBlock) (fun _ => False) rfl rfl ?aO ?aR (fun _ _ h => h) (fun _ h => h.elim) ?aF ?aB ?aS ?aL ?_; (case aR => repeat (first | exact (Kd.R_reads' HO299.out).2.2 | (with_reducible refine Kd.C_alloc ?_ _) | (with_reducible refine Kd.C_drewN ?_ _) | (with_reducible refine Kd.C_drew ?_))); (case aB => exact (by repeat (first | (with_reducible first | exact HB.out | apply below_alloc | apply pw_below_drewN | apply below_drew1 | refine below_set ?_ GE281.out) | exact HB.out))); (case aF => exact (fun k_ hk => Kd.fresh' (Kd.R_lt (by (with_reducible repeat (first | apply Kd.R_alloc | apply Kd.R_drewN | apply Kd.R_drew)); exact HO299.out)) k_ hk)); (case aO => exact (by (with_reducible repeat (first | apply Kd.R_alloc | apply Kd.R_drewN | apply Kd.R_drew)); exact Kd.R_mono HO_7.out (fun _ hk => hk.2))); (case aS => exact (below_size (by repeat (first | (with_reducible first | exact HB.out | apply below_alloc | apply pw_below_drewN | apply below_drew1 | refine below_set ?_ GE281.out) | exact HB.out)))); (case aL => have := LMc36.out; omega); intro v301 w40 ho hb hg hat; rw [← Ny300.out] at ho; have n0_ := Aside0.mk (blk_grown (g := gb281) (o := .cells #[.int .i64 ((rd_T111 l0 a1).f0), .int .i64 ((rd_T111 l0 a1).f1), .string ((rd_T111 l0 a1).f2), .int .i64 ((rd_T111 l0 a1).f3)] 111 (0, 0)) (by (with_reducible repeat (first | refine blk_drewN ?_ _ | refine blk_drew ?_ | refine blk_alloc ?_ _)); exact BK281.out) hg (Kd.R_ne HO_7.out BK281.out (by decide))); have n1_ := Aside0.mk (Kd.R_after (ok := (fun _ => True)) (by (with_reducible repeat (first | apply Kd.R_alloc | apply Kd.R_drewN | apply Kd.R_drew)); exact HO299.out) hg hat); have n2_ := Aside0.mk (hb); have n3_ := Aside0.mk (ho); clear BK281; clear HO299; clear HB; clear HO_7; have BK281 := n0_; have HO299 := n1_; have HB := n2_; have HO302 := n3_; clear n0_ n1_ n2_ n3_; clear ho hb hg hat))
                  go_ret2
                  exact ⟨_, by first | rfl | (simp [errW_none, errW_some] <;> rfl) | (simp [*, errW_none, errW_some] <;> rfl), by (with_reducible repeat (first | apply Kd.R_alloc | apply Kd.R_drewN | apply Kd.R_drew)); exact Kd.R_mono HO302.out (fun _ hk => trivial), by repeat (first | (with_reducible first | exact HB.out | apply below_alloc | apply pw_below_drewN | apply below_drew1 | refine below_set ?_ GE281.out) | exact HB.out)⟩
                · rw [if_neg c36] at H
                  exact absurd H (by simp)
        · rw [if_neg c16] at H
          have c16b0 : (((rd_T111 l0 a1).f0) == 2) = false := beq_eq_false_iff_ne.mpr c16
          have c16b1 : (((rd_T111 l0 a1).f0) != 2) = true := bne_iff_ne.mpr c16
          by_cases c42 : ((rd_T111 l0 a1).f0) = 3
          · rw [if_pos c42] at H
            have c42b0 : (((rd_T111 l0 a1).f0) == 3) = true := beq_iff_eq.mpr c42
            have c42b1 : (((rd_T111 l0 a1).f0) != 3) = false := bne_eq_false_iff_eq.mpr c42
            clear c42
            have H' := Aside0.mk H
            clear H
            have p280 : 0 ≤ (a1 : Int) := of_decide_eq_true (by first | (with_reducible assumption) | assumption)
            have q280 : a1 < (l0.length : Int) := of_decide_eq_true (by first | (with_reducible assumption) | assumption)
            obtain ⟨ad280, e280, hx280_0, hx280_1, hx280_2, hx280_3⟩ := at_T111 HR0.out a1 p280 q280
            cases e280
            replace p280 := eq_true p280
            replace q280 := eq_true q280
            go_enter Try.func63, Try.ntmps63
            go_wp2_with (first | ((with_reducible refine gate_dst (N := 6) rfl ?_); refine box_event ?hg (N := 6) ?hd (cs := #[.int .i64 0, .int .i64 0, .string (⟨#[]⟩ : ByteArray), .int .i64 0]) (t := 111) ?hr ?_; (case hd => rfl); (case hg => rfl); (case hr => first | (go_simp; done) | (go_simp; rfl)); intro gb281 hg w43 hbox hb; have n0_ := Aside0.mk (below_step (by repeat (first | (with_reducible first | exact HB.out | apply below_alloc | apply pw_below_drewN | apply below_drew1) | exact HB.out)) hb); have n1_ := Aside0.mk (hbox); have n2_ := Aside0.mk ((by rw [hg]; exact (below_size (by repeat (first | (with_reducible first | exact HB.out | apply below_alloc | apply pw_below_drewN | apply below_drew1) | exact HB.out))) : w.heap.size ≤ gb281)); have n3_ := Aside0.mk ((by rw [hg]; exact (below_size (by repeat (first | (with_reducible first | exact HB.out | apply below_alloc | apply pw_below_drewN | apply below_drew1) | exact HB.out))) : w.heap.size ≤ gb281)); clear HB; have HB := n0_; have BK281 := n1_; have GW281 := n2_; have GE281 := n3_; clear n0_ n1_ n2_ n3_; clear hb hbox hg; have hcz44_0 : w43.cell? ⟨gb281, 0, none⟩ = some (.int .i64 0) := (blk_cell BK281.out 0).trans rfl; have hcz44_1 : w43.cell? ⟨gb281, 1, none⟩ = some (.int .i64 0) := (blk_cell BK281.out 1).trans rfl; have hcz44_2 : w43.cell? ⟨gb281, 2, none⟩ = some (.string (⟨#[]⟩ : ByteArray)) := (blk_cell BK281.out 2).trans rfl; have hcz44_3 : w43.cell? ⟨gb281, 3, none⟩ = some (.int .i64 0) := (blk_cell BK281.out 3).trans rfl; have hfz44_0 := blk_frozen BK281.out 0; have hfz44_1 := blk_frozen BK281.out 1; have hfz44_2 := blk_frozen BK281.out 2; have hfz44_3 := blk_frozen BK281.out 3) | ((with_reducible refine gate_dst (N := 21) rfl ?_); refine Kd.R_lit (Kd.int .u8) _ 5 ?hg (N := 21) ?hd (xs := ([(wrap64 (((rd_T111 l0 a1).f0) + 1)) % 256] : List Int)) (inner := [.int .u8 ((wrap64 (((rd_T111 l0 a1).f0) + 1)) % 256)]) (ok := fun _ => True) (okp := fun _ => True) ?hr ?hp (fun _ hk => hk) trivial (Below.refl _ _) (Nat.le_refl _) (by simp) ?_; (case hd => rfl); (case hg => rfl); (case hr => first | (go_simp; done) | (go_simp; rfl)); (case hp => exact (Reps.one (show Kd.M (Kd.int .u8) _ _ _ ((wrap64 (((rd_T111 l0 a1).f0) + 1)) % 256) [.int .u8 ((wrap64 (((rd_T111 l0 a1).f0) + 1)) % 256)] from rfl) (Reps.none _ _))); intro v283 w45 ho46 hb hg_ hnew_; clear hg_ hnew_; (first | rw [← Ny282.out] at ho46 | (simp only [Int.reduceToNat] at ho46; rw [← Ny282.out] at ho46)); have n0_ := Aside0.mk (Kd.R_lower ho46 (below_size (by repeat (first | (with_reducible first | exact HB.out | apply below_alloc | apply pw_below_drewN | apply below_drew1 | refine below_set ?_ GE281.out) | exact HB.out)))); have n1_ := Aside0.mk (blk_below (g := gb281) (o := .cells #[.int .i64 ((rd_T111 l0 a1).f0), .int .i64 ((rd_T111 l0 a1).f1), .string ((rd_T111 l0 a1).f2), .int .i64 ((rd_T111 l0 a1).f3)] 111 (0, 0)) (by (with_reducible repeat (first | refine blk_drewN ?_ _ | refine blk_drew ?_ | refine blk_alloc ?_ _)); refine blk_put (cs := #[.int .i64 ((rd_T111 l0 a1).f0), .int .i64 ((rd_T111 l0 a1).f1), .string ((rd_T111 l0 a1).f2), .int .i64 0]) ?_ 3 _ rfl; (with_reducible repeat (first | refine blk_drewN ?_ _ | refine blk_drew ?_ | refine blk_alloc ?_ _)); refine blk_put (cs := #[.int .i64 ((rd_T111 l0 a1).f0), .int .i64 ((rd_T111 l0 a1).f1), .string (⟨#[]⟩ : ByteArray), .int .i64 0]) ?_ 2 _ rfl; (with_reducible repeat (first | refine blk_drewN ?_ _ | refine blk_drew ?_ | refine blk_alloc ?_ _)); refine blk_put (cs := #[.int .i64 ((rd_T111 l0 a1).f0), .int .i64 0, .string (⟨#[]⟩ : ByteArray), .int .i64 0]) ?_ 1 _ rfl; (with_reducible repeat (first | refine blk_drewN ?_ _ | refine blk_drew ?_ | refine blk_alloc ?_ _)); refine blk_put (cs := #[.int .i64 0, .int .i64 0, .string (⟨#[]⟩ : ByteArray), .int .i64 0]) ?_ 0 _ rfl; (with_reducible repeat (first | refine blk_drewN ?_ _ | refine blk_drew ?_ | refine blk_alloc ?_ _)); exact BK281.out) hb); have n2_ := Aside0.mk (below_step (by repeat (first | (with_reducible first | exact HB.out | apply below_alloc | apply pw_below_drewN | apply below_drew1 | refine below_set ?_ GE281.out) | exact HB.out)) hb); clear BK281; clear HB; have HO284 := n0_; have BK281 := n1_; have HB := n2_; clear n0_ n1_ n2_; clear hb ho46; have hcz47_0 : w45.cell? ⟨gb281, 0, none⟩ = some (.int .i64 ((rd_T111 l0 a1).f0)) := (blk_cell BK281.out 0).trans rfl; have hcz47_1 : w45.cell? ⟨gb281, 1, none⟩ = some (.int .i64 ((rd_T111 l0 a1).f1)) := (blk_cell BK281.out 1).trans rfl; have hcz47_2 : w45.cell? ⟨gb281, 2, none⟩ = some (.string ((rd_T111 l0 a1).f2)) := (blk_cell BK281.out 2).trans rfl; have hcz47_3 : w45.cell? ⟨gb281, 3, none⟩ = some (.int .i64 ((rd_T111 l0 a1).f3)) := (blk_cell BK281.out 3).trans rfl; have hfz47_0 := blk_frozen BK281.out 0; have hfz47_1 := blk_frozen BK281.out 1; have hfz47_2 := blk_frozen BK281.out 2; have hfz47_3 := blk_frozen BK281.out 3))
            go_loopg [7, 8, 10] k (fun kq v7 v8 v10 w' => ∃ (x7_1 : List Int) (x8_1 : Int) (x10_1 : Int), v8 = .int .i64 x8_1 ∧ v10 = .int .i64 x10_1 ∧ Aside0 (eddyref2_rank.l1 kq l0 x7_1 x8_1 x10_1 ((rd_T111 l0 a1).f0) ((rd_T111 l0 a1).f1) ((rd_T111 l0 a1).f2) ((rd_T111 l0 a1).f3) = some (r1, r2)) ∧ Aside0 (kq ≤ k) ∧ Aside0 (Kd.R (Kd.int .u8) 5 w' w.heap.size (fun _ => True) v7 x7_1) ∧ Aside0 (w'.heap[gb281]? = some (.cells #[.int .i64 ((rd_T111 l0 a1).f0), .int .i64 ((rd_T111 l0 a1).f1), .string ((rd_T111 l0 a1).f2), .int .i64 ((rd_T111 l0 a1).f3)] 111 (0, 0))) ∧ Aside0 (Below w.heap.size w w'))
            case atStart => exact ⟨(y282), (wrap64 (a1 + 1)), (0), (by first | rfl | (simp; done) | (simp [*]; done)), (by first | rfl | (simp; done) | (simp [*]; done)), H', ⟨Nat.le_refl _⟩, ⟨by (with_reducible repeat (first | apply Kd.R_alloc | apply Kd.R_drewN | apply Kd.R_drew)); exact HO284.out⟩, ⟨by (with_reducible repeat (first | refine blk_drewN ?_ _ | refine blk_drew ?_ | refine blk_alloc ?_ _)); exact BK281.out⟩, ⟨by repeat (first | (with_reducible first | exact HB.out | apply below_alloc | apply pw_below_drewN | apply below_drew1 | refine below_set ?_ GE281.out) | exact HB.out)⟩⟩
            case round =>
              clear H'
              try clear c1
              try clear c2
              try clear p2
              try clear q2
              try clear hx2
              try clear c3
              try clear c3b0
              try clear c4
              try clear c4b0
              try clear c5
              try clear c5b0
              try clear c5b1
              try clear c6
              try clear p6
              try clear c7
              try clear c16
              try clear c16b0
              try clear c16b1
              try clear c22
              try clear c22b0
              try clear c23
              try clear c23b0
              try clear p24
              try clear q24
              try clear hx24
              try clear c25
              try clear p26
              try clear q26
              try clear hx26
              try clear c27
              try clear c27b0
              try clear c27b1
              try clear c28
              try clear p28
              try clear q28
              try clear hx28
              try clear c36
              try clear c42
              try clear c42b0
              try clear c42b1
              try clear hcz12_0
              try clear hcz12_1
              try clear hcz12_2
              try clear hcz12_3
              try clear hcz18_0
              try clear hcz18_1
              try clear hcz18_2
              try clear hcz18_3
              try clear hcz21_0
              try clear hcz21_1
              try clear hcz21_2
              try clear hcz21_3
              try clear hcz29_0
              try clear hcz29_1
              try clear hcz29_2
              try clear hcz29_3
              try clear hcz31_0
              try clear hcz31_1
              try clear hcz31_2
              try clear hcz31_3
              try clear hcz33_0
              try clear hcz33_1
              try clear hcz33_2
              try clear hcz33_3
              try clear hcz35_0
              try clear hcz35_1
              try clear hcz35_2
              try clear hcz35_3
              try clear hcz37_0
              try clear hcz37_1
              try clear hcz37_2
              try clear hcz37_3
              try clear hcz44_0
              try clear hcz44_1
              try clear hcz44_2
              try clear hcz44_3
              try clear hcz47_0
              try clear hcz47_1
              try clear hcz47_2
              try clear hcz47_3
              try clear hcz9_0
              try clear hcz9_1
              try clear hcz9_2
              try clear hcz9_3
              try clear hfz12_0
              try clear hfz12_1
              try clear hfz12_2
              try clear hfz12_3
              try clear hfz18_0
              try clear hfz18_1
              try clear hfz18_2
              try clear hfz18_3
              try clear hfz21_0
              try clear hfz21_1
              try clear hfz21_2
              try clear hfz21_3
              try clear hfz29_0
              try clear hfz29_1
              try clear hfz29_2
              try clear hfz29_3
              try clear hfz31_0
              try clear hfz31_1
              try clear hfz31_2
              try clear hfz31_3
              try clear hfz33_0
              try clear hfz33_1
              try clear hfz33_2
              try clear hfz33_3
              try clear hfz35_0
              try clear hfz35_1
              try clear hfz35_2
              try clear hfz35_3
              try clear hfz37_0
              try clear hfz37_1
              try clear hfz37_2
              try clear hfz37_3
              try clear hfz44_0
              try clear hfz44_1
              try clear hfz44_2
              try clear hfz44_3
              try clear hfz47_0
              try clear hfz47_1
              try clear hfz47_2
              try clear hfz47_3
              try clear hfz9_0
              try clear hfz9_1
              try clear hfz9_2
              try clear hfz9_3
              try clear hx280_0
              try clear hx280_1
              try clear hx280_2
              try clear hx280_3
              try clear p2
              try clear p24
              try clear p26
              try clear p280
              try clear p6
              try clear q2
              try clear q24
              try clear q26
              try clear q280
              obtain ⟨x7_1, x8_1, x10_1, rfl, rfl, HA, HK1, HO_7, BK281, HB⟩ := hrel
              cases gk with
              | zero => exact absurd HA.out (by simp [eddyref2_rank.l1])
              | succ k1 =>
                have H := HA.out
                clear HA
                simp only [eddyref2_rank.l1] at H
                by_cases c48 : x10_1 < ((rd_T111 l0 a1).f3)
                · rw [if_pos c48] at H
                  have c48b0 : decide (x10_1 < ((rd_T111 l0 a1).f3)) = true := decide_eq_true c48
                  clear c48
                  replace H := Option.bind_eq_some_iff.mp H
                  obtain ⟨⟨t303, t304⟩, A490, H⟩ := H
                  replace H : (if x7_1.length + t303.length < 140737488355328 then (eddyref2_rank.l1 k1 l0 (x7_1 ++ t303) t304 (wrap64 (x10_1 + 1)) ((rd_T111 l0 a1).f0) ((rd_T111 l0 a1).f1) ((rd_T111 l0 a1).f2) ((rd_T111 l0 a1).f3)) else (none)) = some (r1, r2) := H
                  have A49 := Aside0.mk A490
                  clear A490
                  by_cases c50 : x7_1.length + t303.length < 140737488355328
                  · rw [if_pos c50] at H
                    have LMc50 := Aside0.mk c50
                    clear c50
                    obtain ⟨y307, hy307⟩ : ∃ y_ : List Int, y_ = (x7_1 ++ t303) := ⟨_, rfl⟩
                    replace H : (eddyref2_rank.l1 k1 l0 y307 t304 (wrap64 (x10_1 + 1)) ((rd_T111 l0 a1).f0) ((rd_T111 l0 a1).f1) ((rd_T111 l0 a1).f2) ((rd_T111 l0 a1).f3)) = some (r1, r2) := by first | (rw [hy307]; with_reducible exact H) | (have H2_ := (Option.bind_some _ _).symm.trans H; rw [hy307]; with_reducible exact H2_) | (have H2_ := (Option.bind_some _ _).symm.trans H; with_reducible exact H2_) | with_reducible exact H | (rw [hy307]; exact H) | exact H
                    have Ny307 := Aside0.mk hy307
                    clear hy307
                    have H' := Aside0.mk H
                    clear H
                    have hcz51_0 : wr.cell? ⟨gb281, 0, none⟩ = some (.int .i64 ((rd_T111 l0 a1).f0)) := (blk_cell BK281.out 0).trans rfl
                    have hcz51_1 : wr.cell? ⟨gb281, 1, none⟩ = some (.int .i64 ((rd_T111 l0 a1).f1)) := (blk_cell BK281.out 1).trans rfl
                    have hcz51_2 : wr.cell? ⟨gb281, 2, none⟩ = some (.string ((rd_T111 l0 a1).f2)) := (blk_cell BK281.out 2).trans rfl
                    have hcz51_3 : wr.cell? ⟨gb281, 3, none⟩ = some (.int .i64 ((rd_T111 l0 a1).f3)) := (blk_cell BK281.out 3).trans rfl
                    have hfz51_0 := blk_frozen BK281.out 0
                    have hfz51_1 := blk_frozen BK281.out 1
                    have hfz51_2 := blk_frozen BK281.out 2
                    have hfz51_3 := blk_frozen BK281.out 3
                    go_wp2_with (first | ((with_reducible refine gate_callee (f := 63) rfl ?_); refine goesL_ (some 71) rfl rfl Try.func63 (by kernel_rfl) rfl #[.slice (some ad280) l0.length c0, .int .i64 x8_1] rfl (by (try simp only [List.map_toArray, List.map_cons, List.map_nil]); first | done | rfl | (simp only [List.length_drop, List.length_take]; rfl)) ?_; (with_reducible refine (ih k1 (by have := HK1.out; omega) _ _ l0 x8_1 t303 t304 _ ?side1 ?side2 A49.out).mono ?_); (case side1 => repeat (first | exact (Kd.C_below HR0.out HB.out) | (with_reducible refine Kd.C_alloc ?_ _) | (with_reducible refine Kd.C_drewN ?_ _) | (with_reducible refine Kd.C_drew ?_))); (case side2 => exact HC0.out); rintro e w52 ⟨v305, rfl, ho0, hb⟩; refine ⟨_, rfl, ?_⟩; have n0_ := Aside0.mk (Kd.R_elder' (by (with_reducible repeat (first | apply Kd.R_alloc | apply Kd.R_drewN | apply Kd.R_drew)); exact HO_7.out) (Kd.R_base ho0) hb); have n1_ := Aside0.mk (Kd.R_lower (Kd.R_new' ho0 (Kd.R_lt (by (with_reducible repeat (first | apply Kd.R_alloc | apply Kd.R_drewN | apply Kd.R_drew)); exact HO_7.out))) (below_size (by repeat (first | (with_reducible first | exact HB.out | apply below_alloc | apply pw_below_drewN | apply below_drew1 | refine below_set ?_ GE281.out) | exact HB.out)))); have n2_ := Aside0.mk (blk_below (g := gb281) (o := .cells #[.int .i64 ((rd_T111 l0 a1).f0), .int .i64 ((rd_T111 l0 a1).f1), .string ((rd_T111 l0 a1).f2), .int .i64 ((rd_T111 l0 a1).f3)] 111 (0, 0)) (by (with_reducible repeat (first | refine blk_drewN ?_ _ | refine blk_drew ?_ | refine blk_alloc ?_ _)); exact BK281.out) hb); have n3_ := Aside0.mk (below_step (by repeat (first | (with_reducible first | exact HB.out | apply below_alloc | apply pw_below_drewN | apply below_drew1 | refine below_set ?_ GE281.out) | exact HB.out)) hb); clear HO_7; clear BK281; clear HB; have HO_7 := n0_; have HO306 := n1_; have BK281 := n2_; have HB := n3_; clear n0_ n1_ n2_ n3_; (try clear hb); (try clear hb2); (try clear hk); (try clear hi); (try clear ho0); obtain ⟨Ao54, co54, eo54⟩ := Kd.R_slice HO306.out; subst eo54) | ((with_reducible refine gate_builtin (b := .append) (xs := #[.tmp 74, .tmp 75]) rfl ?_); at_builtin; refine Kd.R_append_rows (Kd.int .u8) (w0 := w) w.heap.size rfl (.tmp 74) (.tmp 75) 105 5 (.int .u8 0) 1 rfl Try.underlying105 info5 rfl (by decide) (by omega) u7 x7_1 t303 _ _ _ (fun k_ => some k_ ≠ (.slice Ao54 t303.length co54 : Value).ownBlock) (fun _ => False) rfl rfl ?aO ?aR (fun _ _ h => h) (fun _ h => h.elim) ?aF ?aB ?aS ?aL ?_; (case aR => repeat (first | exact (Kd.R_reads' HO306.out).2.2 | (with_reducible refine Kd.C_alloc ?_ _) | (with_reducible refine Kd.C_drewN ?_ _) | (with_reducible refine Kd.C_drew ?_))); (case aB => exact (by repeat (first | (with_reducible first | exact HB.out | apply below_alloc | apply pw_below_drewN | apply below_drew1 | refine below_set ?_ GE281.out) | exact HB.out))); (case aF => exact (fun k_ hk => Kd.fresh' (Kd.R_lt (by (with_reducible repeat (first | apply Kd.R_alloc | apply Kd.R_drewN | apply Kd.R_drew)); exact HO306.out)) k_ hk)); (case aO => exact (by (with_reducible repeat (first | apply Kd.R_alloc | apply Kd.R_drewN | apply Kd.R_drew)); exact Kd.R_mono HO_7.out (fun _ hk => hk.2))); (case aS => exact (below_size (by repeat (first | (with_reducible first | exact HB.out | apply below_alloc | apply pw_below_drewN | apply below_drew1 | refine below_set ?_ GE281.out) | exact HB.out)))); (case aL => have := LMc50.out; omega); intro v308 w53 ho hb hg hat; rw [← Ny307.out] at ho; have n0_ := Aside0.mk (blk_grown (g := gb281) (o := .cells #[.int .i64 ((rd_T111 l0 a1).f0), .int .i64 ((rd_T111 l0 a1).f1), .string ((rd_T111 l0 a1).f2), .int .i64 ((rd_T111 l0 a1).f3)] 111 (0, 0)) (by (with_reducible repeat (first | refine blk_drewN ?_ _ | refine blk_drew ?_ | refine blk_alloc ?_ _)); exact BK281.out) hg (Kd.R_ne HO_7.out BK281.out (by decide))); have n1_ := Aside0.mk (Kd.R_after (ok := (fun _ => True)) (by (with_reducible repeat (first | apply Kd.R_alloc | apply Kd.R_drewN | apply Kd.R_drew)); exact HO306.out) hg hat); have n2_ := Aside0.mk (hb); have n3_ := Aside0.mk (ho); clear BK281; clear HO306; clear HB; clear HO_7; have BK281 := n0_; have HO306 := n1_; have HB := n2_; have HO309 := n3_; clear n0_ n1_ n2_ n3_; clear ho hb hg hat))
                    go_roundg k1
                    case measure => have := HK1.out; omega
                    case rel => exact ⟨(y307), (t304), (wrap64 (x10_1 + 1)), (by first | rfl | (simp; done) | (simp [*]; done)), (by first | rfl | (simp; done) | (simp [*]; done)), H', ⟨by have := HK1.out; omega⟩, ⟨by (with_reducible repeat (first | apply Kd.R_alloc | apply Kd.R_drewN | apply Kd.R_drew)); exact Kd.R_mono HO309.out (fun _ hk => trivial)⟩, ⟨by (with_reducible repeat (first | refine blk_drewN ?_ _ | refine blk_drew ?_ | refine blk_alloc ?_ _)); exact BK281.out⟩, ⟨by repeat (first | (with_reducible first | exact HB.out | apply below_alloc | apply pw_below_drewN | apply below_drew1 | refine below_set ?_ GE281.out) | exact HB.out)⟩⟩
                  · rw [if_neg c50] at H
                    exact absurd H (by simp)
                · rw [if_neg c48] at H
                  have c48b0 : decide (x10_1 < ((rd_T111 l0 a1).f3)) = false := decide_eq_false c48
                  clear c48
                  by_cases c55 : x7_1.length < 140737488355328
                  · rw [if_pos c55] at H
                    have LMc55 := Aside0.mk c55
                    clear c55
                    obtain ⟨y310, hy310⟩ : ∃ y_ : List Int, y_ = (x7_1 ++ [0]) := ⟨_, rfl⟩
                    replace H : (some (y310, x8_1)) = some (r1, r2) := by first | (rw [hy310]; with_reducible exact H) | (have H2_ := (Option.bind_some _ _).symm.trans H; rw [hy310]; with_reducible exact H2_) | (have H2_ := (Option.bind_some _ _).symm.trans H; with_reducible exact H2_) | with_reducible exact H | (rw [hy310]; exact H) | exact H
                    have Ny310 := Aside0.mk hy310
                    clear hy310
                    simp only [Option.some.injEq, Prod.mk.injEq] at H
                    obtain ⟨rfl, rfl⟩ := H
                    have hcz56_0 : wr.cell? ⟨gb281, 0, none⟩ = some (.int .i64 ((rd_T111 l0 a1).f0)) := (blk_cell BK281.out 0).trans rfl
                    have hcz56_1 : wr.cell? ⟨gb281, 1, none⟩ = some (.int .i64 ((rd_T111 l0 a1).f1)) := (blk_cell BK281.out 1).trans rfl
                    have hcz56_2 : wr.cell? ⟨gb281, 2, none⟩ = some (.string ((rd_T111 l0 a1).f2)) := (blk_cell BK281.out 2).trans rfl
                    have hcz56_3 : wr.cell? ⟨gb281, 3, none⟩ = some (.int .i64 ((rd_T111 l0 a1).f3)) := (blk_cell BK281.out 3).trans rfl
                    have hfz56_0 := blk_frozen BK281.out 0
                    have hfz56_1 := blk_frozen BK281.out 1
                    have hfz56_2 := blk_frozen BK281.out 2
                    have hfz56_3 := blk_frozen BK281.out 3
                    go_wp2_with (first | ((with_reducible refine gate_builtin (b := .append) (xs := #[.tmp 78, .tmp 79]) rfl ?_); at_builtin; refine Kd.R_append (Kd.int .u8) (w0 := w) w.heap.size rfl (.tmp 78) (.tmp 79) 105 5 (.int .u8 0) 1 rfl Try.underlying105 info5 rfl (by decide) (by omega) u7 x7_1 0 [.int .u8 0] (fun _ => True) (fun _ => False) rfl rfl ?aP (fun _ hk => hk.elim) ?aF ?aO ?aB ?aS ?aL ?_; (case aP => exact rfl); (case aB => exact (by repeat (first | (with_reducible first | exact HB.out | apply below_alloc | apply pw_below_drewN | apply below_drew1 | refine below_set ?_ GE281.out) | exact HB.out))); (case aF => exact (fun _ _ => trivial)); (case aO => exact (by (with_reducible repeat (first | apply Kd.R_alloc | apply Kd.R_drewN | apply Kd.R_drew)); exact HO_7.out)); (case aS => exact (below_size (by repeat (first | (with_reducible first | exact HB.out | apply below_alloc | apply pw_below_drewN | apply below_drew1 | refine below_set ?_ GE281.out) | exact HB.out)))); (case aL => have := LMc55.out; omega); intro v311 w57 ho hb hg hat; rw [← Ny310.out] at ho; have n0_ := Aside0.mk (blk_grown (g := gb281) (o := .cells #[.int .i64 ((rd_T111 l0 a1).f0), .int .i64 ((rd_T111 l0 a1).f1), .string ((rd_T111 l0 a1).f2), .int .i64 ((rd_T111 l0 a1).f3)] 111 (0, 0)) (by (with_reducible repeat (first | refine blk_drewN ?_ _ | refine blk_drew ?_ | refine blk_alloc ?_ _)); exact BK281.out) hg (Kd.R_ne HO_7.out BK281.out (by decide))); have n1_ := Aside0.mk (hb); have n2_ := Aside0.mk (ho); clear BK281; clear HB; clear HO_7; have BK281 := n0_; have HB := n1_; have HO312 := n2_; clear n0_ n1_ n2_; clear ho hb hg hat))
                    go_ret2
                    exact ⟨_, by first | rfl | (simp [errW_none, errW_some] <;> rfl) | (simp [*, errW_none, errW_some] <;> rfl), by (with_reducible repeat (first | apply Kd.R_alloc | apply Kd.R_drewN | apply Kd.R_drew)); exact HO312.out, by repeat (first | (with_reducible first | exact HB.out | apply below_alloc | apply pw_below_drewN | apply below_drew1 | refine below_set ?_ GE281.out) | exact HB.out)⟩
                  · rw [if_neg c55] at H
                    exact absurd H (by simp)
          · rw [if_neg c42] at H
            have c42b0 : (((rd_T111 l0 a1).f0) == 3) = false := beq_eq_false_iff_ne.mpr c42
            have c42b1 : (((rd_T111 l0 a1).f0) != 3) = true := bne_iff_ne.mpr c42
            simp only [Option.some.injEq, Prod.mk.injEq] at H
            obtain ⟨rfl, rfl⟩ := H
            have p280 : 0 ≤ (a1 : Int) := of_decide_eq_true (by first | (with_reducible assumption) | assumption)
            have q280 : a1 < (l0.length : Int) := of_decide_eq_true (by first | (with_reducible assumption) | assumption)
            obtain ⟨ad280, e280, hx280_0, hx280_1, hx280_2, hx280_3⟩ := at_T111 HR0.out a1 p280 q280
            cases e280
            replace p280 := eq_true p280
            replace q280 := eq_true q280
            go_enter Try.func63, Try.ntmps63
            go_wp2_with (first | ((with_reducible refine gate_dst (N := 6) rfl ?_); refine box_event ?hg (N := 6) ?hd (cs := #[.int .i64 0, .int .i64 0, .string (⟨#[]⟩ : ByteArray), .int .i64 0]) (t := 111) ?hr ?_; (case hd => rfl); (case hg => rfl); (case hr => first | (go_simp; done) | (go_simp; rfl)); intro gb281 hg w58 hbox hb; have n0_ := Aside0.mk (below_step (by repeat (first | (with_reducible first | exact HB.out | apply below_alloc | apply pw_below_drewN | apply below_drew1) | exact HB.out)) hb); have n1_ := Aside0.mk (hbox); have n2_ := Aside0.mk ((by rw [hg]; exact (below_size (by repeat (first | (with_reducible first | exact HB.out | apply below_alloc | apply pw_below_drewN | apply below_drew1) | exact HB.out))) : w.heap.size ≤ gb281)); have n3_ := Aside0.mk ((by rw [hg]; exact (below_size (by repeat (first | (with_reducible first | exact HB.out | apply below_alloc | apply pw_below_drewN | apply below_drew1) | exact HB.out))) : w.heap.size ≤ gb281)); clear HB; have HB := n0_; have BK281 := n1_; have GW281 := n2_; have GE281 := n3_; clear n0_ n1_ n2_ n3_; clear hb hbox hg; have hcz59_0 : w58.cell? ⟨gb281, 0, none⟩ = some (.int .i64 0) := (blk_cell BK281.out 0).trans rfl; have hcz59_1 : w58.cell? ⟨gb281, 1, none⟩ = some (.int .i64 0) := (blk_cell BK281.out 1).trans rfl; have hcz59_2 : w58.cell? ⟨gb281, 2, none⟩ = some (.string (⟨#[]⟩ : ByteArray)) := (blk_cell BK281.out 2).trans rfl; have hcz59_3 : w58.cell? ⟨gb281, 3, none⟩ = some (.int .i64 0) := (blk_cell BK281.out 3).trans rfl; have hfz59_0 := blk_frozen BK281.out 0; have hfz59_1 := blk_frozen BK281.out 1; have hfz59_2 := blk_frozen BK281.out 2; have hfz59_3 := blk_frozen BK281.out 3) | ((with_reducible refine gate_dst (N := 21) rfl ?_); refine Kd.R_lit (Kd.int .u8) _ 5 ?hg (N := 21) ?hd (xs := ([(wrap64 (((rd_T111 l0 a1).f0) + 1)) % 256] : List Int)) (inner := [.int .u8 ((wrap64 (((rd_T111 l0 a1).f0) + 1)) % 256)]) (ok := fun _ => True) (okp := fun _ => True) ?hr ?hp (fun _ hk => hk) trivial (Below.refl _ _) (Nat.le_refl _) (by simp) ?_; (case hd => rfl); (case hg => rfl); (case hr => first | (go_simp; done) | (go_simp; rfl)); (case hp => exact (Reps.one (show Kd.M (Kd.int .u8) _ _ _ ((wrap64 (((rd_T111 l0 a1).f0) + 1)) % 256) [.int .u8 ((wrap64 (((rd_T111 l0 a1).f0) + 1)) % 256)] from rfl) (Reps.none _ _))); intro v283 w60 ho61 hb hg_ hnew_; clear hg_ hnew_; (first | rw [← Ny282.out] at ho61 | (simp only [Int.reduceToNat] at ho61; rw [← Ny282.out] at ho61)); have n0_ := Aside0.mk (Kd.R_lower ho61 (below_size (by repeat (first | (with_reducible first | exact HB.out | apply below_alloc | apply pw_below_drewN | apply below_drew1 | refine below_set ?_ GE281.out) | exact HB.out)))); have n1_ := Aside0.mk (blk_below (g := gb281) (o := .cells #[.int .i64 ((rd_T111 l0 a1).f0), .int .i64 ((rd_T111 l0 a1).f1), .string ((rd_T111 l0 a1).f2), .int .i64 ((rd_T111 l0 a1).f3)] 111 (0, 0)) (by (with_reducible repeat (first | refine blk_drewN ?_ _ | refine blk_drew ?_ | refine blk_alloc ?_ _)); refine blk_put (cs := #[.int .i64 ((rd_T111 l0 a1).f0), .int .i64 ((rd_T111 l0 a1).f1), .string ((rd_T111 l0 a1).f2), .int .i64 0]) ?_ 3 _ rfl; (with_reducible repeat (first | refine blk_drewN ?_ _ | refine blk_drew ?_ | refine blk_alloc ?_ _)); refine blk_put (cs := #[.int .i64 ((rd_T111 l0 a1).f0), .int .i64 ((rd_T111 l0 a1).f1), .string (⟨#[]⟩ : ByteArray), .int .i64 0]) ?_ 2 _ rfl; (with_reducible repeat (first | refine blk_drewN ?_ _ | refine blk_drew ?_ | refine blk_alloc ?_ _)); refine blk_put (cs := #[.int .i64 ((rd_T111 l0 a1).f0), .int .i64 0, .string (⟨#[]⟩ : ByteArray), .int .i64 0]) ?_ 1 _ rfl; (with_reducible repeat (first | refine blk_drewN ?_ _ | refine blk_drew ?_ | refine blk_alloc ?_ _)); refine blk_put (cs := #[.int .i64 0, .int .i64 0, .string (⟨#[]⟩ : ByteArray), .int .i64 0]) ?_ 0 _ rfl; (with_reducible repeat (first | refine blk_drewN ?_ _ | refine blk_drew ?_ | refine blk_alloc ?_ _)); exact BK281.out) hb); have n2_ := Aside0.mk (below_step (by repeat (first | (with_reducible first | exact HB.out | apply below_alloc | apply pw_below_drewN | apply below_drew1 | refine below_set ?_ GE281.out) | exact HB.out)) hb); clear BK281; clear HB; have HO284 := n0_; have BK281 := n1_; have HB := n2_; clear n0_ n1_ n2_; clear hb ho61; have hcz62_0 : w60.cell? ⟨gb281, 0, none⟩ = some (.int .i64 ((rd_T111 l0 a1).f0)) := (blk_cell BK281.out 0).trans rfl; have hcz62_1 : w60.cell? ⟨gb281, 1, none⟩ = some (.int .i64 ((rd_T111 l0 a1).f1)) := (blk_cell BK281.out 1).trans rfl; have hcz62_2 : w60.cell? ⟨gb281, 2, none⟩ = some (.string ((rd_T111 l0 a1).f2)) := (blk_cell BK281.out 2).trans rfl; have hcz62_3 : w60.cell? ⟨gb281, 3, none⟩ = some (.int .i64 ((rd_T111 l0 a1).f3)) := (blk_cell BK281.out 3).trans rfl; have hfz62_0 := blk_frozen BK281.out 0; have hfz62_1 := blk_frozen BK281.out 1; have hfz62_2 := blk_frozen BK281.out 2; have hfz62_3 := blk_frozen BK281.out 3))
            go_ret2
            exact ⟨_, by first | rfl | (simp [errW_none, errW_some] <;> rfl) | (simp [*, errW_none, errW_some] <;> rfl), by (with_reducible repeat (first | apply Kd.R_alloc | apply Kd.R_drewN | apply Kd.R_drew)); exact HO284.out, by repeat (first | (with_reducible first | exact HB.out | apply below_alloc | apply pw_below_drewN | apply below_drew1 | refine below_set ?_ GE281.out) | exact HB.out)⟩
    · rw [if_neg c4] at H
      exact absurd H (by simp)
  · rw [if_neg c3] at H
    exact absurd H (by simp)

end Go.Proofs.Ytpplnhefpcofoaa.PDeltaJoin
