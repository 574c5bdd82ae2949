/- Equal things are the same; the places of the markers. (Two functions' texts are the print's, under this text's names.) -/
import Derived.Test.YtcbfddhdaamimaaLJ
namespace Go.Proofs.Ytcbfddhdaamimaa.PLaneFifo
open Go.RowKit Go.Conc Go.Proofs.YtcbfddhdaamimaaW.PrintWords Go.Proofs.YtcbfddhdaamimaaW.PrintLast Go.Proofs.YtcbfddhdaamimaaW.PrintMore
attribute [local go_sem] max2_int min2_int max_two min_two max_three min_three max_four min_four
set_option linter.unusedVariables false
set_option linter.unusedSimpArgs false

def eddylaw5_marksAhead.l0 : Nat → List (S35) → List Int → Int → Int → Option (List Int)
  | 0, _, _, _, _ => none
  | k + 1, x0, x3, x4, x5 => if x5 < (x0.length : Int) then (if 0 ≤ x5 then (if ((rd_T35 x0 x5).f0) > 0 then (if x3.length < 17592186044416 then (eddylaw5_marksAhead.l0 k x0 (x3 ++ [x4]) x4 (wrap64 (x5 + 1))) else (none)) else (eddylaw5_marksAhead.l0 k x0 x3 (wrap64 (x4 + 1)) (wrap64 (x5 + 1)))) else (none)) else (some x3)
def eddylaw5_marksAhead.f (k : Nat) (l0 : List (S35)) : Option (List Int) := eddylaw5_marksAhead.l0 k l0 ([] : List Int) 0 0
theorem eddylaw5_marksAhead.mono_l : ∀ k, (∀ y0 y1 y2 y3, LeO (eddylaw5_marksAhead.l0 k y0 y1 y2 y3) (eddylaw5_marksAhead.l0 (k + 1) y0 y1 y2 y3))
  | 0 => fun _ _ _ _ r h => by simp [eddylaw5_marksAhead.l0] at h
  | k + 1 => by
    have ih0 := eddylaw5_marksAhead.mono_l k
    · intro y0 y1 y2 y3
      unfold eddylaw5_marksAhead.l0
      repeat' first
      | (with_reducible exact ih0 _ _ _ _)
      | (with_reducible exact LeO.refl _)
      | (with_reducible exact LeO.none _)
      | (with_reducible refine LeO.ite ?_ ?_)
      | (with_reducible refine LeO.bind ?_ (fun _ => ?_))
      | exact ih0 _ _ _ _
      | exact LeO.none _
      | refine LeO.ite ?_ ?_
      | refine LeO.bind ?_ (fun _ => ?_)
theorem eddylaw5_marksAhead.mono : ∀ a0 k, LeO (eddylaw5_marksAhead.f k a0) (eddylaw5_marksAhead.f (k + 1) a0) := by
  intro a0 k
  have ih0 := eddylaw5_marksAhead.mono_l k
  unfold eddylaw5_marksAhead.f
  repeat' first
      | (with_reducible exact ih0 _ _ _ _)
      | (with_reducible exact LeO.refl _)
      | (with_reducible exact LeO.none _)
      | (with_reducible refine LeO.ite ?_ ?_)
      | (with_reducible refine LeO.bind ?_ (fun _ => ?_))
      | exact ih0 _ _ _ _
      | exact LeO.none _
      | refine LeO.ite ?_ ?_
      | refine LeO.bind ?_ (fun _ => ?_)
set_option maxHeartbeats 8000000 in
set_option maxRecDepth 100000 in
theorem eddylaw5_marksAhead.calls (k : Nat) (A0 : Option Addr) (c0 : Nat) (l0 : List (S35)) (r : List Int) (w : World) (hr0 : Kd.C k35 w A0 l0.length l0) (hc0 : l0.length ≤ c0) (h : eddylaw5_marksAhead.f k l0 = some r) :
    Calls Try.prog 9 #[.slice A0 l0.length c0] w fun e w' => ∃ v0_ : Value, e = .returned (v0_) ∧ Kd.R (Kd.int .i64) 3 w' w.heap.size (fun _ => True) v0_ r ∧ Below w.heap.size w w' := by
  have HR0 := Aside0.mk hr0
  have HC0 := Aside0.mk hc0
  clear hr0 hc0
  have HB := Aside0.mk (Below.refl w.heap.size w)
  have H : (eddylaw5_marksAhead.l0 k l0 ([] : List Int) 0 0) = some r := h
  clear h
  have H' := Aside0.mk H
  clear H
  go_enter Try.func9, Try.ntmps9
  go_wp2
  go_loopg [3, 4, 5] k (fun kq v3 v4 v5 w' => ∃ (x3_1 : List Int) (x4_1 : Int) (x5_1 : Int), v4 = .int .i64 x4_1 ∧ v5 = .int .i64 x5_1 ∧ Aside0 (eddylaw5_marksAhead.l0 kq l0 x3_1 x4_1 x5_1 = some r) ∧ Aside0 (kq ≤ k) ∧ Aside0 (Kd.R (Kd.int .i64) 3 w' w.heap.size (fun _ => True) v3 x3_1) ∧ Aside0 (Below w.heap.size w w'))
  case atStart => exact ⟨(([] : List Int)), (0), (0), (by first | rfl | (simp; done) | (simp [*]; done)), (by first | rfl | (simp; done) | (simp [*]; done)), H', ⟨Nat.le_refl _⟩, ⟨by first | exact Kd.R_nil _ _ _ _ _ | exact Kd.N_nil _ _ _ _ _ | exact Kd.V_nil _ _ _ _ _ | exact Kd.Q_nil _ _ _ _ _ | exact Kd.S_nil _ _ _ _ _⟩, ⟨by repeat (first | (with_reducible first | exact HB.out | apply below_alloc | apply pw_below_drewN | apply below_drew1) | exact HB.out)⟩⟩
  case round =>
    clear H'
    obtain ⟨x3_1, x4_1, x5_1, rfl, rfl, HA, HK1, HO_3, HB⟩ := hrel
    cases gk with
    | zero => exact absurd HA.out (by simp [eddylaw5_marksAhead.l0])
    | succ k1 =>
      have H := HA.out
      clear HA
      simp only [eddylaw5_marksAhead.l0] at H
      by_cases c2 : x5_1 < (l0.length : Int)
      · rw [if_pos c2] at H
        have c2b0 : decide (x5_1 < (l0.length : Int)) = true := decide_eq_true c2
        clear c2
        by_cases c3 : 0 ≤ x5_1
        · rw [if_pos c3] at H
          have c3b0 : decide (0 ≤ x5_1) = true := decide_eq_true c3
          clear c3
          by_cases c4 : ((rd_T35 l0 x5_1).f0) > 0
          · rw [if_pos c4] at H
            have c4b0 : decide (0 < ((rd_T35 l0 x5_1).f0)) = true := decide_eq_true c4
            clear c4
            by_cases c5 : x3_1.length < 17592186044416
            · rw [if_pos c5] at H
              have LMc5 := Aside0.mk c5
              clear c5
              obtain ⟨y130, hy130⟩ : ∃ y_ : List Int, y_ = (x3_1 ++ [x4_1]) := ⟨_, rfl⟩
              replace H : (eddylaw5_marksAhead.l0 k1 l0 y130 x4_1 (wrap64 (x5_1 + 1))) = some r := by first | (rw [hy130]; with_reducible exact H) | (have H2_ := (Option.bind_some _ _).symm.trans H; rw [hy130]; with_reducible exact H2_) | (have H2_ := (Option.bind_some _ _).symm.trans H; with_reducible exact H2_) | with_reducible exact H | (rw [hy130]; exact H) | exact H
              have Ny130 := Aside0.mk hy130
              clear hy130
              have H' := Aside0.mk H
              clear H
              have p129 : 0 ≤ (x5_1 : Int) := of_decide_eq_true (by first | (with_reducible assumption) | assumption)
              have q129 : x5_1 < (l0.length : Int) := of_decide_eq_true (by first | (with_reducible assumption) | assumption)
              obtain ⟨ad129, A129_5, c129_5, A129_6, c129_6, e129, hx129_0, hx129_1, hx129_2, hx129_3, hx129_4, hx129_5, hx129_6, hl129_5, hi129_5, hl129_6, hi129_6⟩ := at_T35 HR0.out x5_1 p129 q129
              cases e129
              replace hx129_0 := (HB.out.cell (World.block_lt_of_cell? w _ hx129_0)).trans hx129_0
              replace hx129_1 := (HB.out.cell (World.block_lt_of_cell? w _ hx129_1)).trans hx129_1
              replace hx129_2 := (HB.out.cell (World.block_lt_of_cell? w _ hx129_2)).trans hx129_2
              replace hx129_3 := (HB.out.cell (World.block_lt_of_cell? w _ hx129_3)).trans hx129_3
              replace hx129_4 := (HB.out.cell (World.block_lt_of_cell? w _ hx129_4)).trans hx129_4
              replace hx129_5 := (HB.out.cell (World.block_lt_of_cell? w _ hx129_5)).trans hx129_5
              replace hx129_6 := (HB.out.cell (World.block_lt_of_cell? w _ hx129_6)).trans hx129_6
              have HR129_5 := Aside0.mk hi129_5
              have HC129_5 := Aside0.mk hl129_5
              clear hi129_5 hl129_5
              have HR129_6 := Aside0.mk hi129_6
              have HC129_6 := Aside0.mk hl129_6
              clear hi129_6 hl129_6
              replace p129 := eq_true p129
              replace q129 := eq_true q129
              go_wp2_with (first | ((with_reducible refine gate_builtin (b := .append) (xs := #[.tmp 18, .tmp 20]) rfl ?_); at_builtin; refine Kd.R_append (Kd.int .i64) (w0 := w) w.heap.size rfl (.tmp 18) (.tmp 20) 31 3 (.int .i64 0) 8 rfl Try.underlying31 info3 rfl (by decide) (by omega) u3 x3_1 x4_1 [.int .i64 x4_1] (fun _ => True) (fun _ => False) rfl rfl ?aP (fun _ hk => hk.elim) ?aF ?aO ?aB ?aS ?aL ?_; (case aP => exact rfl); (case aB => exact (by repeat (first | (with_reducible first | exact HB.out | apply below_alloc | apply pw_below_drewN | apply below_drew1) | exact HB.out))); (case aF => exact (fun _ _ => trivial)); (case aO => exact (by (with_reducible repeat (first | apply Kd.R_alloc | apply Kd.R_drewN | apply Kd.R_drew)); exact HO_3.out)); (case aS => exact (below_size (by repeat (first | (with_reducible first | exact HB.out | apply below_alloc | apply pw_below_drewN | apply below_drew1) | exact HB.out)))); (case aL => have := LMc5.out; omega); intro v131 w6 ho hb hg hat; rw [← Ny130.out] at ho; have n0_ := Aside0.mk (hb); have n1_ := Aside0.mk (ho); clear HB; clear HO_3; have HB := n0_; have HO132 := n1_; clear n0_ n1_; clear ho hb hg hat))
              go_roundg k1
              case measure => have := HK1.out; omega
              case rel => exact ⟨(y130), (x4_1), (wrap64 (x5_1 + 1)), (by first | rfl | (simp; done) | (simp [*]; done)), (by first | rfl | (simp; done) | (simp [*]; done)), H', ⟨by have := HK1.out; omega⟩, ⟨by (with_reducible repeat (first | apply Kd.R_alloc | apply Kd.R_drewN | apply Kd.R_drew)); exact HO132.out⟩, ⟨by repeat (first | (with_reducible first | exact HB.out | apply below_alloc | apply pw_below_drewN | apply below_drew1) | exact HB.out)⟩⟩
            · rw [if_neg c5] at H
              exact absurd H (by simp)
          · rw [if_neg c4] at H
            have c4b0 : decide (0 < ((rd_T35 l0 x5_1).f0)) = false := decide_eq_false c4
            clear c4
            have H' := Aside0.mk H
            clear H
            have p129 : 0 ≤ (x5_1 : Int) := of_decide_eq_true (by first | (with_reducible assumption) | assumption)
            have q129 : x5_1 < (l0.length : Int) := of_decide_eq_true (by first | (with_reducible assumption) | assumption)
            obtain ⟨ad129, A129_5, c129_5, A129_6, c129_6, e129, hx129_0, hx129_1, hx129_2, hx129_3, hx129_4, hx129_5, hx129_6, hl129_5, hi129_5, hl129_6, hi129_6⟩ := at_T35 HR0.out x5_1 p129 q129
            cases e129
            replace hx129_0 := (HB.out.cell (World.block_lt_of_cell? w _ hx129_0)).trans hx129_0
            replace hx129_1 := (HB.out.cell (World.block_lt_of_cell? w _ hx129_1)).trans hx129_1
            replace hx129_2 := (HB.out.cell (World.block_lt_of_cell? w _ hx129_2)).trans hx129_2
            replace hx129_3 := (HB.out.cell (World.block_lt_of_cell? w _ hx129_3)).trans hx129_3
            replace hx129_4 := (HB.out.cell (World.block_lt_of_cell? w _ hx129_4)).trans hx129_4
            replace hx129_5 := (HB.out.cell (World.block_lt_of_cell? w _ hx129_5)).trans hx129_5
            replace hx129_6 := (HB.out.cell (World.block_lt_of_cell? w _ hx129_6)).trans hx129_6
            have HR129_5 := Aside0.mk hi129_5
            have HC129_5 := Aside0.mk hl129_5
            clear hi129_5 hl129_5
            have HR129_6 := Aside0.mk hi129_6
            have HC129_6 := Aside0.mk hl129_6
            clear hi129_6 hl129_6
            replace p129 := eq_true p129
            replace q129 := eq_true q129
            go_wp2
            go_roundg k1
            case measure => have := HK1.out; omega
            case rel => exact ⟨(x3_1), (wrap64 (x4_1 + 1)), (wrap64 (x5_1 + 1)), (by first | rfl | (simp; done) | (simp [*]; done)), (by first | rfl | (simp; done) | (simp [*]; done)), H', ⟨by have := HK1.out; omega⟩, ⟨by (with_reducible repeat (first | apply Kd.R_alloc | apply Kd.R_drewN | apply Kd.R_drew)); exact HO_3.out⟩, ⟨by repeat (first | (with_reducible first | exact HB.out | apply below_alloc | apply pw_below_drewN | apply below_drew1) | exact HB.out)⟩⟩
        · rw [if_neg c3] at H
          exact absurd H (by simp)
      · rw [if_neg c2] at H
        have c2b0 : decide (x5_1 < (l0.length : Int)) = false := decide_eq_false c2
        clear c2
        obtain rfl := Option.some.inj H
        go_wp2
        go_ret
        exact ⟨_, by first | rfl | (simp [errW_none, errW_some] <;> rfl) | (simp [*, errW_none, errW_some] <;> rfl), by (with_reducible repeat (first | apply Kd.R_alloc | apply Kd.R_drewN | apply Kd.R_drew)); exact HO_3.out, by repeat (first | (with_reducible first | exact HB.out | apply below_alloc | apply pw_below_drewN | apply below_drew1) | exact HB.out)⟩

def eddylaw5_sameItem.f (k : Nat) (a0_0 : Int) (a0_1 : ByteArray) (a0_2 : Int) (a0_3 : Int) (a0_4 : ByteArray) (l0_5 : List (S30)) (l0_6 : List Int) (a1_0 : Int) (a1_1 : ByteArray) (a1_2 : Int) (a1_3 : Int) (a1_4 : ByteArray) (l1_5 : List (S30)) (l1_6 : List Int) : Option (Bool) := if a0_0 = a1_0 then ((eddylaw5_sameRec.f k a0_1 a0_2 a0_3 a0_4 l0_5 l0_6 a1_1 a1_2 a1_3 a1_4 l1_5 l1_6).bind fun t146 => (some t146)) else (some false)
theorem eddylaw5_sameItem.mono : ∀ a0 a1 a2 a3 a4 a5 a6 a7 a8 a9 a10 a11 a12 a13 k, LeO (eddylaw5_sameItem.f k a0 a1 a2 a3 a4 a5 a6 a7 a8 a9 a10 a11 a12 a13) (eddylaw5_sameItem.f (k + 1) a0 a1 a2 a3 a4 a5 a6 a7 a8 a9 a10 a11 a12 a13) := by
  intro a0 a1 a2 a3 a4 a5 a6 a7 a8 a9 a10 a11 a12 a13 k
  unfold eddylaw5_sameItem.f
  repeat' first
      | (with_reducible exact eddylaw5_sameRec.mono _ _ _ _ _ _ _ _ _ _ _ _ _)
      | (with_reducible exact LeO.refl _)
      | (with_reducible exact LeO.none _)
      | (with_reducible refine LeO.ite ?_ ?_)
      | (with_reducible refine LeO.bind ?_ (fun _ => ?_))
      | exact eddylaw5_sameRec.mono _ _ _ _ _ _ _ _ _ _ _ _ _
      | exact LeO.none _
      | refine LeO.ite ?_ ?_
      | refine LeO.bind ?_ (fun _ => ?_)
set_option maxHeartbeats 8000000 in
set_option maxRecDepth 100000 in
theorem eddylaw5_sameItem.calls (k : Nat) (a0_0 : Int) (a0_1 : ByteArray) (a0_2 : Int) (a0_3 : Int) (a0_4 : ByteArray) (A0_5 : Option Addr) (c0_5 : Nat) (l0_5 : List (S30)) (A0_6 : Option Addr) (c0_6 : Nat) (l0_6 : List Int) (a1_0 : Int) (a1_1 : ByteArray) (a1_2 : Int) (a1_3 : Int) (a1_4 : ByteArray) (A1_5 : Option Addr) (c1_5 : Nat) (l1_5 : List (S30)) (A1_6 : Option Addr) (c1_6 : Nat) (l1_6 : List Int) (r : Bool) (w : World) (hr0_5 : Kd.C k30 w A0_5 l0_5.length l0_5) (hc0_5 : l0_5.length ≤ c0_5) (hr0_6 : Kd.C (Kd.int .i64) w A0_6 l0_6.length l0_6) (hc0_6 : l0_6.length ≤ c0_6) (hr1_5 : Kd.C k30 w A1_5 l1_5.length l1_5) (hc1_5 : l1_5.length ≤ c1_5) (hr1_6 : Kd.C (Kd.int .i64) w A1_6 l1_6.length l1_6) (hc1_6 : l1_6.length ≤ c1_6) (h : eddylaw5_sameItem.f k a0_0 a0_1 a0_2 a0_3 a0_4 l0_5 l0_6 a1_0 a1_1 a1_2 a1_3 a1_4 l1_5 l1_6 = some r) :
    Calls Try.prog 18 #[.agg #[.int .i64 a0_0, .string a0_1, .int .i64 a0_2, .int .i64 a0_3, .string a0_4, .slice A0_5 l0_5.length c0_5, .slice A0_6 l0_6.length c0_6], .agg #[.int .i64 a1_0, .string a1_1, .int .i64 a1_2, .int .i64 a1_3, .string a1_4, .slice A1_5 l1_5.length c1_5, .slice A1_6 l1_6.length c1_6]] w fun e w' => e = .returned (.bool r) ∧ Below w.heap.size w w' := by
  have hu35 := Try.underlying35
  have hu33 := Try.underlying33
  have HR0_5 := Aside0.mk hr0_5
  have HC0_5 := Aside0.mk hc0_5
  clear hr0_5 hc0_5
  have HR0_6 := Aside0.mk hr0_6
  have HC0_6 := Aside0.mk hc0_6
  clear hr0_6 hc0_6
  have HR1_5 := Aside0.mk hr1_5
  have HC1_5 := Aside0.mk hc1_5
  clear hr1_5 hc1_5
  have HR1_6 := Aside0.mk hr1_6
  have HC1_6 := Aside0.mk hc1_6
  clear hr1_6 hc1_6
  have HB := Aside0.mk (Below.refl w.heap.size w)
  have H : (if a0_0 = a1_0 then ((eddylaw5_sameRec.f k a0_1 a0_2 a0_3 a0_4 l0_5 l0_6 a1_1 a1_2 a1_3 a1_4 l1_5 l1_6).bind fun t146 => (some t146)) else (some false)) = some r := h
  clear h
  by_cases c3 : a0_0 = a1_0
  · rw [if_pos c3] at H
    have c3b0 : (a0_0 == a1_0) = true := beq_iff_eq.mpr c3
    have c3b1 : (a0_0 != a1_0) = false := bne_eq_false_iff_eq.mpr c3
    clear c3
    replace H := Option.bind_eq_some_iff.mp H
    obtain ⟨t146, A40, H⟩ := H
    replace H : (some t146) = some r := H
    have A4 := Aside0.mk A40
    clear A40
    obtain rfl := Option.some.inj H
    go_enter Try.func18, Try.ntmps18
    go_wp2_with (first | ((with_reducible refine gate_dst (N := 2) rfl ?_); refine box_event ?hg (N := 2) ?hd (cs := #[.int .i64 a0_0, .string a0_1, .int .i64 a0_2, .int .i64 a0_3, .string a0_4, .slice A0_5 l0_5.length c0_5, .slice A0_6 l0_6.length c0_6]) (t := 35) ?hr ?_; (case hd => rfl); (case hg => rfl); (case hr => first | (go_simp; done) | (go_simp; rfl)); intro gb144 hg w5 hbox hb; have n0_ := Aside0.mk (below_step (by repeat (first | (with_reducible first | exact HB.out | apply below_alloc | apply pw_below_drewN | apply below_drew1) | exact HB.out)) hb); have n1_ := Aside0.mk (hbox); have n2_ := Aside0.mk ((by rw [hg]; exact (below_size (by repeat (first | (with_reducible first | exact HB.out | apply below_alloc | apply pw_below_drewN | apply below_drew1) | exact HB.out))) : w.heap.size ≤ gb144)); have n3_ := Aside0.mk ((by rw [hg]; exact (below_size (by repeat (first | (with_reducible first | exact HB.out | apply below_alloc | apply pw_below_drewN | apply below_drew1) | exact HB.out))) : w.heap.size ≤ gb144)); clear HB; have HB := n0_; have BK144 := n1_; have GW144 := n2_; have GE144 := n3_; clear n0_ n1_ n2_ n3_; clear hb hbox hg) | ((with_reducible refine gate_dst (N := 3) rfl ?_); refine box_event ?hg (N := 3) ?hd (cs := #[.int .i64 a1_0, .string a1_1, .int .i64 a1_2, .int .i64 a1_3, .string a1_4, .slice A1_5 l1_5.length c1_5, .slice A1_6 l1_6.length c1_6]) (t := 35) ?hr ?_; (case hd => rfl); (case hg => rfl); (case hr => first | (go_simp; done) | (go_simp; rfl)); intro gb145 hg w6 hbox hb; have n0_ := Aside0.mk (blk_below (g := gb144) (o := .cells #[.int .i64 a0_0, .string a0_1, .int .i64 a0_2, .int .i64 a0_3, .string a0_4, .slice A0_5 l0_5.length c0_5, .slice A0_6 l0_6.length c0_6] 35 (0, 0)) (by (with_reducible repeat (first | refine blk_drewN ?_ _ | refine blk_drew ?_ | refine blk_alloc ?_ _)); exact BK144.out) hb); have n1_ := Aside0.mk (below_step (by repeat (first | (with_reducible first | exact HB.out | apply below_alloc | apply pw_below_drewN | apply below_drew1 | refine below_set ?_ GE144.out) | exact HB.out)) hb); have n2_ := Aside0.mk (hbox); have n3_ := Aside0.mk ((by rw [hg]; exact (below_size (by repeat (first | (with_reducible first | exact HB.out | apply below_alloc | apply pw_below_drewN | apply below_drew1 | refine below_set ?_ GE144.out) | exact HB.out))) : w.heap.size ≤ gb145)); have n4_ := Aside0.mk ((by rw [hg]; exact (below_size (by repeat (first | (with_reducible first | exact HB.out | apply below_alloc | apply pw_below_drewN | apply below_drew1 | refine below_set ?_ GE144.out) | exact HB.out))) : w.heap.size ≤ gb145)); have n5_ := Aside0.mk ((by rw [hg]; exact Nat.ne_of_lt (blk_lt (g := gb144) (o := .cells #[.int .i64 a0_0, .string a0_1, .int .i64 a0_2, .int .i64 a0_3, .string a0_4, .slice A0_5 l0_5.length c0_5, .slice A0_6 l0_6.length c0_6] 35 (0, 0)) (by (with_reducible repeat (first | refine blk_drewN ?_ _ | refine blk_drew ?_ | refine blk_alloc ?_ _)); exact BK144.out)) : gb144 ≠ gb145)); have n6_ := Aside0.mk ((by rw [hg]; exact Nat.ne_of_gt (blk_lt (g := gb144) (o := .cells #[.int .i64 a0_0, .string a0_1, .int .i64 a0_2, .int .i64 a0_3, .string a0_4, .slice A0_5 l0_5.length c0_5, .slice A0_6 l0_6.length c0_6] 35 (0, 0)) (by (with_reducible repeat (first | refine blk_drewN ?_ _ | refine blk_drew ?_ | refine blk_alloc ?_ _)); exact BK144.out)) : gb145 ≠ gb144)); clear BK144; clear HB; have BK144 := n0_; have HB := n1_; have BK145 := n2_; have GW145 := n3_; have GE145 := n4_; have NB144_145 := n5_; have NB145_144 := n6_; clear n0_ n1_ n2_ n3_ n4_ n5_ n6_; clear hb hbox hg; have hnb7 := NB144_145.out; have hnc7 := NB145_144.out; have hcz8_0 : w6.cell? ⟨gb144, 0, none⟩ = some (.int .i64 a0_0) := (blk_cell BK144.out 0).trans rfl; have hcz8_1 : w6.cell? ⟨gb144, 1, none⟩ = some (.string a0_1) := (blk_cell BK144.out 1).trans rfl; have hcz8_2 : w6.cell? ⟨gb144, 2, none⟩ = some (.int .i64 a0_2) := (blk_cell BK144.out 2).trans rfl; have hcz8_3 : w6.cell? ⟨gb144, 3, none⟩ = some (.int .i64 a0_3) := (blk_cell BK144.out 3).trans rfl; have hcz8_4 : w6.cell? ⟨gb144, 4, none⟩ = some (.string a0_4) := (blk_cell BK144.out 4).trans rfl; have hcz8_5 : w6.cell? ⟨gb144, 5, none⟩ = some (.slice A0_5 l0_5.length c0_5) := (blk_cell BK144.out 5).trans rfl; have hcz8_6 : w6.cell? ⟨gb144, 6, none⟩ = some (.slice A0_6 l0_6.length c0_6) := (blk_cell BK144.out 6).trans rfl; have hfz8_0 := blk_frozen BK144.out 0; have hfz8_1 := blk_frozen BK144.out 1; have hfz8_2 := blk_frozen BK144.out 2; have hfz8_3 := blk_frozen BK144.out 3; have hfz8_4 := blk_frozen BK144.out 4; have hfz8_5 := blk_frozen BK144.out 5; have hfz8_6 := blk_frozen BK144.out 6; have hcz9_0 : w6.cell? ⟨gb145, 0, none⟩ = some (.int .i64 a1_0) := (blk_cell BK145.out 0).trans rfl; have hcz9_1 : w6.cell? ⟨gb145, 1, none⟩ = some (.string a1_1) := (blk_cell BK145.out 1).trans rfl; have hcz9_2 : w6.cell? ⟨gb145, 2, none⟩ = some (.int .i64 a1_2) := (blk_cell BK145.out 2).trans rfl; have hcz9_3 : w6.cell? ⟨gb145, 3, none⟩ = some (.int .i64 a1_3) := (blk_cell BK145.out 3).trans rfl; have hcz9_4 : w6.cell? ⟨gb145, 4, none⟩ = some (.string a1_4) := (blk_cell BK145.out 4).trans rfl; have hcz9_5 : w6.cell? ⟨gb145, 5, none⟩ = some (.slice A1_5 l1_5.length c1_5) := (blk_cell BK145.out 5).trans rfl; have hcz9_6 : w6.cell? ⟨gb145, 6, none⟩ = some (.slice A1_6 l1_6.length c1_6) := (blk_cell BK145.out 6).trans rfl; have hfz9_0 := blk_frozen BK145.out 0; have hfz9_1 := blk_frozen BK145.out 1; have hfz9_2 := blk_frozen BK145.out 2; have hfz9_3 := blk_frozen BK145.out 3; have hfz9_4 := blk_frozen BK145.out 4; have hfz9_5 := blk_frozen BK145.out 5; have hfz9_6 := blk_frozen BK145.out 6) | (go_at_call 13; (with_reducible refine (eddylaw5_sameRec.calls k a0_1 a0_2 a0_3 a0_4 _ _ l0_5 _ _ l0_6 a1_1 a1_2 a1_3 a1_4 _ _ l1_5 _ _ l1_6 t146 _ ?side1 ?side2 ?side3 ?side4 ?side5 ?side6 ?side7 ?side8 A4.out).mono ?_); (case side1 => repeat (first | exact (Kd.C_below HR0_5.out HB.out) | (with_reducible refine Kd.C_alloc ?_ _) | (with_reducible refine Kd.C_drewN ?_ _) | (with_reducible refine Kd.C_drew ?_))); (case side2 => exact HC0_5.out); (case side3 => repeat (first | exact (Kd.C_below HR0_6.out HB.out) | (with_reducible refine Kd.C_alloc ?_ _) | (with_reducible refine Kd.C_drewN ?_ _) | (with_reducible refine Kd.C_drew ?_))); (case side4 => exact HC0_6.out); (case side5 => repeat (first | exact (Kd.C_below HR1_5.out HB.out) | (with_reducible refine Kd.C_alloc ?_ _) | (with_reducible refine Kd.C_drewN ?_ _) | (with_reducible refine Kd.C_drew ?_))); (case side6 => exact HC1_5.out); (case side7 => repeat (first | exact (Kd.C_below HR1_6.out HB.out) | (with_reducible refine Kd.C_alloc ?_ _) | (with_reducible refine Kd.C_drewN ?_ _) | (with_reducible refine Kd.C_drew ?_))); (case side8 => exact HC1_6.out); rintro e w10 ⟨rfl, hb⟩; have n0_ := Aside0.mk (blk_below (g := gb144) (o := .cells #[.int .i64 a0_0, .string a0_1, .int .i64 a0_2, .int .i64 a0_3, .string a0_4, .slice A0_5 l0_5.length c0_5, .slice A0_6 l0_6.length c0_6] 35 (0, 0)) (by (with_reducible repeat (first | refine blk_drewN ?_ _ | refine blk_drew ?_ | refine blk_alloc ?_ _)); exact BK144.out) hb); have n1_ := Aside0.mk (blk_below (g := gb145) (o := .cells #[.int .i64 a1_0, .string a1_1, .int .i64 a1_2, .int .i64 a1_3, .string a1_4, .slice A1_5 l1_5.length c1_5, .slice A1_6 l1_6.length c1_6] 35 (0, 0)) (by (with_reducible repeat (first | refine blk_drewN ?_ _ | refine blk_drew ?_ | refine blk_alloc ?_ _)); exact BK145.out) hb); have n2_ := Aside0.mk (below_step (by repeat (first | (with_reducible first | exact HB.out | apply below_alloc | apply pw_below_drewN | apply below_drew1 | refine below_set ?_ GE144.out | refine below_set ?_ GE145.out) | exact HB.out)) hb); clear BK144; clear BK145; clear HB; have BK144 := n0_; have BK145 := n1_; have HB := n2_; clear n0_ n1_ n2_; (try clear hb); (try clear hb2); (try clear hk); (try clear hi)))
    go_ret
    exact ⟨by first | rfl | (simp [errW_none, errW_some] <;> rfl) | (simp [*, errW_none, errW_some] <;> rfl), by repeat (first | (with_reducible first | exact HB.out | apply below_alloc | apply pw_below_drewN | apply below_drew1 | refine below_set ?_ GE144.out | refine below_set ?_ GE145.out) | exact HB.out)⟩
  · rw [if_neg c3] at H
    have c3b0 : (a0_0 == a1_0) = false := beq_eq_false_iff_ne.mpr c3
    have c3b1 : (a0_0 != a1_0) = true := bne_iff_ne.mpr c3
    obtain rfl := Option.some.inj H
    go_enter Try.func18, Try.ntmps18
    go_wp2_with (first | ((with_reducible refine gate_dst (N := 2) rfl ?_); refine box_event ?hg (N := 2) ?hd (cs := #[.int .i64 a0_0, .string a0_1, .int .i64 a0_2, .int .i64 a0_3, .string a0_4, .slice A0_5 l0_5.length c0_5, .slice A0_6 l0_6.length c0_6]) (t := 35) ?hr ?_; (case hd => rfl); (case hg => rfl); (case hr => first | (go_simp; done) | (go_simp; rfl)); intro gb144 hg w11 hbox hb; have n0_ := Aside0.mk (below_step (by repeat (first | (with_reducible first | exact HB.out | apply below_alloc | apply pw_below_drewN | apply below_drew1) | exact HB.out)) hb); have n1_ := Aside0.mk (hbox); have n2_ := Aside0.mk ((by rw [hg]; exact (below_size (by repeat (first | (with_reducible first | exact HB.out | apply below_alloc | apply pw_below_drewN | apply below_drew1) | exact HB.out))) : w.heap.size ≤ gb144)); have n3_ := Aside0.mk ((by rw [hg]; exact (below_size (by repeat (first | (with_reducible first | exact HB.out | apply below_alloc | apply pw_below_drewN | apply below_drew1) | exact HB.out))) : w.heap.size ≤ gb144)); clear HB; have HB := n0_; have BK144 := n1_; have GW144 := n2_; have GE144 := n3_; clear n0_ n1_ n2_ n3_; clear hb hbox hg) | ((with_reducible refine gate_dst (N := 3) rfl ?_); refine box_event ?hg (N := 3) ?hd (cs := #[.int .i64 a1_0, .string a1_1, .int .i64 a1_2, .int .i64 a1_3, .string a1_4, .slice A1_5 l1_5.length c1_5, .slice A1_6 l1_6.length c1_6]) (t := 35) ?hr ?_; (case hd => rfl); (case hg => rfl); (case hr => first | (go_simp; done) | (go_simp; rfl)); intro gb145 hg w12 hbox hb; have n0_ := Aside0.mk (blk_below (g := gb144) (o := .cells #[.int .i64 a0_0, .string a0_1, .int .i64 a0_2, .int .i64 a0_3, .string a0_4, .slice A0_5 l0_5.length c0_5, .slice A0_6 l0_6.length c0_6] 35 (0, 0)) (by (with_reducible repeat (first | refine blk_drewN ?_ _ | refine blk_drew ?_ | refine blk_alloc ?_ _)); exact BK144.out) hb); have n1_ := Aside0.mk (below_step (by repeat (first | (with_reducible first | exact HB.out | apply below_alloc | apply pw_below_drewN | apply below_drew1 | refine below_set ?_ GE144.out) | exact HB.out)) hb); have n2_ := Aside0.mk (hbox); have n3_ := Aside0.mk ((by rw [hg]; exact (below_size (by repeat (first | (with_reducible first | exact HB.out | apply below_alloc | apply pw_below_drewN | apply below_drew1 | refine below_set ?_ GE144.out) | exact HB.out))) : w.heap.size ≤ gb145)); have n4_ := Aside0.mk ((by rw [hg]; exact (below_size (by repeat (first | (with_reducible first | exact HB.out | apply below_alloc | apply pw_below_drewN | apply below_drew1 | refine below_set ?_ GE144.out) | exact HB.out))) : w.heap.size ≤ gb145)); have n5_ := Aside0.mk ((by rw [hg]; exact Nat.ne_of_lt (blk_lt (g := gb144) (o := .cells #[.int .i64 a0_0, .string a0_1, .int .i64 a0_2, .int .i64 a0_3, .string a0_4, .slice A0_5 l0_5.length c0_5, .slice A0_6 l0_6.length c0_6] 35 (0, 0)) (by (with_reducible repeat (first | refine blk_drewN ?_ _ | refine blk_drew ?_ | refine blk_alloc ?_ _)); exact BK144.out)) : gb144 ≠ gb145)); have n6_ := Aside0.mk ((by rw [hg]; exact Nat.ne_of_gt (blk_lt (g := gb144) (o := .cells #[.int .i64 a0_0, .string a0_1, .int .i64 a0_2, .int .i64 a0_3, .string a0_4, .slice A0_5 l0_5.length c0_5, .slice A0_6 l0_6.length c0_6] 35 (0, 0)) (by (with_reducible repeat (first | refine blk_drewN ?_ _ | refine blk_drew ?_ | refine blk_alloc ?_ _)); exact BK144.out)) : gb145 ≠ gb144)); clear BK144; clear HB; have BK144 := n0_; have HB := n1_; have BK145 := n2_; have GW145 := n3_; have GE145 := n4_; have NB144_145 := n5_; have NB145_144 := n6_; clear n0_ n1_ n2_ n3_ n4_ n5_ n6_; clear hb hbox hg; have hnb13 := NB144_145.out; have hnc13 := NB145_144.out; have hcz14_0 : w12.cell? ⟨gb144, 0, none⟩ = some (.int .i64 a0_0) := (blk_cell BK144.out 0).trans rfl; have hcz14_1 : w12.cell? ⟨gb144, 1, none⟩ = some (.string a0_1) := (blk_cell BK144.out 1).trans rfl; have hcz14_2 : w12.cell? ⟨gb144, 2, none⟩ = some (.int .i64 a0_2) := (blk_cell BK144.out 2).trans rfl; have hcz14_3 : w12.cell? ⟨gb144, 3, none⟩ = some (.int .i64 a0_3) := (blk_cell BK144.out 3).trans rfl; have hcz14_4 : w12.cell? ⟨gb144, 4, none⟩ = some (.string a0_4) := (blk_cell BK144.out 4).trans rfl; have hcz14_5 : w12.cell? ⟨gb144, 5, none⟩ = some (.slice A0_5 l0_5.length c0_5) := (blk_cell BK144.out 5).trans rfl; have hcz14_6 : w12.cell? ⟨gb144, 6, none⟩ = some (.slice A0_6 l0_6.length c0_6) := (blk_cell BK144.out 6).trans rfl; have hfz14_0 := blk_frozen BK144.out 0; have hfz14_1 := blk_frozen BK144.out 1; have hfz14_2 := blk_frozen BK144.out 2; have hfz14_3 := blk_frozen BK144.out 3; have hfz14_4 := blk_frozen BK144.out 4; have hfz14_5 := blk_frozen BK144.out 5; have hfz14_6 := blk_frozen BK144.out 6; have hcz15_0 : w12.cell? ⟨gb145, 0, none⟩ = some (.int .i64 a1_0) := (blk_cell BK145.out 0).trans rfl; have hcz15_1 : w12.cell? ⟨gb145, 1, none⟩ = some (.string a1_1) := (blk_cell BK145.out 1).trans rfl; have hcz15_2 : w12.cell? ⟨gb145, 2, none⟩ = some (.int .i64 a1_2) := (blk_cell BK145.out 2).trans rfl; have hcz15_3 : w12.cell? ⟨gb145, 3, none⟩ = some (.int .i64 a1_3) := (blk_cell BK145.out 3).trans rfl; have hcz15_4 : w12.cell? ⟨gb145, 4, none⟩ = some (.string a1_4) := (blk_cell BK145.out 4).trans rfl; have hcz15_5 : w12.cell? ⟨gb145, 5, none⟩ = some (.slice A1_5 l1_5.length c1_5) := (blk_cell BK145.out 5).trans rfl; have hcz15_6 : w12.cell? ⟨gb145, 6, none⟩ = some (.slice A1_6 l1_6.length c1_6) := (blk_cell BK145.out 6).trans rfl; have hfz15_0 := blk_frozen BK145.out 0; have hfz15_1 := blk_frozen BK145.out 1; have hfz15_2 := blk_frozen BK145.out 2; have hfz15_3 := blk_frozen BK145.out 3; have hfz15_4 := blk_frozen BK145.out 4; have hfz15_5 := blk_frozen BK145.out 5; have hfz15_6 := blk_frozen BK145.out 6))
    go_ret
    exact ⟨by first | rfl | (simp [errW_none, errW_some] <;> rfl) | (simp [*, errW_none, errW_some] <;> rfl), by repeat (first | (with_reducible first | exact HB.out | apply below_alloc | apply pw_below_drewN | apply below_drew1 | refine below_set ?_ GE144.out | refine below_set ?_ GE145.out) | exact HB.out)⟩

theorem w64 (i : Nat) (h : i ≤ 1000000) : wrap64 ((i : Int) + 1) = ((i + 1 : Nat) : Int) := by unfold wrap64; omega
theorem sv_loop (a b : Int) (c : ByteArray) (l : List S30) (hl : l.length ≤ 100000) (ih : ∀ y ∈ l, ∃ k, eddylaw5_sameValue.f k y.f0 y.f1 y.f2 y.f3 y.f0 y.f1 y.f2 y.f3 = some true) : ∀ d i, i + d = l.length → ∃ k, eddylaw5_sameValue.l0 k (i : Int) a b c l a b c l = some true := by
  intro d
  induction d with
  | zero =>
    intro i hi
    refine ⟨1, ?_⟩
    simp only [eddylaw5_sameValue.l0]
    rw [if_neg (by omega)]
  | succ d ihd =>
    intro i hi
    have hlt : i < l.length := by omega
    obtain ⟨k1, h1⟩ := ihd (i + 1) (by omega)
    have hrd : rd_T30 l (i : Int) = l[i] := by unfold rd_T30; rw [Int.toNat_natCast, List.getD_eq_getElem?_getD, List.getElem?_eq_getElem hlt]; rfl
    obtain ⟨k2, h2⟩ := ih l[i] (List.getElem_mem hlt)
    have m1 := at_rounds (g := fun k => eddylaw5_sameValue.l0 k ((i + 1 : Nat) : Int) a b c l a b c l) (fun k => (eddylaw5_sameValue.mono_l k).2.2 _ _ _ _ _ _ _ _ _) (Nat.le_max_left k1 k2) h1
    have m2 := at_rounds (g := fun k => eddylaw5_sameValue.f k l[i].f0 l[i].f1 l[i].f2 l[i].f3 l[i].f0 l[i].f1 l[i].f2 l[i].f3) (fun k => (eddylaw5_sameValue.mono_l k).1 _ _ _ _ _ _ _ _) (Nat.le_max_right k1 k2) h2
    refine ⟨max k1 k2 + 1, ?_⟩
    simp only [eddylaw5_sameValue.l0]
    rw [if_pos (by omega), if_pos (by omega), if_pos (by omega), hrd, m2]
    simp only [Option.bind_some, if_true]
    rw [w64 i (by omega)]
    exact m1
theorem sv_refl : ∀ (N : Nat) (y : S30), SizeOf.sizeOf y ≤ N → partsV y.f3 ≤ 100000 → ∃ k, eddylaw5_sameValue.f k y.f0 y.f1 y.f2 y.f3 y.f0 y.f1 y.f2 y.f3 = some true
  | 0, y, h, _ => by cases y; simp at h
  | N + 1, y, h, hp => by
    have hl := partsV_len y.f3
    obtain ⟨k, hk⟩ := sv_loop y.f0 y.f1 y.f2 y.f3 (by omega) (fun z hz => sv_refl N z (by have := S30.size_mem hz; omega) (by have := partsV_mem hz; omega)) y.f3.length 0 (by omega)
    refine ⟨k + 2, ?_⟩
    simp only [eddylaw5_sameValue.f, eddylaw5_sameValue.j0]
    rw [if_pos trivial, if_pos trivial, if_pos trivial, if_neg (by simp)]
    exact hk
theorem sr_loop (a : ByteArray) (b c : Int) (d : ByteArray) (vs : List S30) (l : List Int) (hl : l.length ≤ 100000) : ∀ n i, i + n = l.length → ∃ k, eddylaw5_sameRec.l0 k (i : Int) a b c d vs l a b c d vs l = some true := by
  intro n
  induction n with
  | zero =>
    intro i hi
    refine ⟨1, ?_⟩
    simp only [eddylaw5_sameRec.l0]
    rw [if_neg (by omega)]
  | succ n ihn =>
    intro i hi
    obtain ⟨k1, h1⟩ := ihn (i + 1) (by omega)
    refine ⟨k1 + 1, ?_⟩
    simp only [eddylaw5_sameRec.l0]
    rw [if_pos (by omega), if_pos (by omega), if_pos (by omega), if_pos trivial, w64 i (by omega)]
    exact h1
theorem sr_refl (x : S33) (hp : partsR x ≤ 100000) : ∃ k, eddylaw5_sameRec.f k x.f0 x.f1.f0 x.f1.f1 x.f1.f2 x.f1.f3 x.f2 x.f0 x.f1.f0 x.f1.f1 x.f1.f2 x.f1.f3 x.f2 = some true := by
  unfold partsR at hp
  obtain ⟨k1, h1⟩ := sv_refl _ x.f1 (Nat.le_refl _) (by omega)
  obtain ⟨k2, h2⟩ := sr_loop x.f0 x.f1.f0 x.f1.f1 x.f1.f2 x.f1.f3 x.f2 (by omega) x.f2.length 0 (by omega)
  have m1 := at_rounds (g := fun k => eddylaw5_sameValue.f k x.f1.f0 x.f1.f1 x.f1.f2 x.f1.f3 x.f1.f0 x.f1.f1 x.f1.f2 x.f1.f3) (fun k => (eddylaw5_sameValue.mono_l k).1 _ _ _ _ _ _ _ _) (show k1 ≤ max k1 k2 + 1 by omega) h1
  have m2 := at_rounds (g := fun k => eddylaw5_sameRec.l0 k ((0 : Nat) : Int) x.f0 x.f1.f0 x.f1.f1 x.f1.f2 x.f1.f3 x.f2 x.f0 x.f1.f0 x.f1.f1 x.f1.f2 x.f1.f3 x.f2) (fun k => (eddylaw5_sameRec.mono_l k).2 _ _ _ _ _ _ _ _ _ _ _ _ _) (Nat.le_max_right k1 k2) h2
  refine ⟨max k1 k2 + 1, ?_⟩
  simp only [eddylaw5_sameRec.f]
  rw [if_pos trivial, if_pos trivial, m1]
  simp only [Option.bind_some, eddylaw5_sameRec.j0]
  rw [if_neg (by simp)]
  exact m2
theorem rs_loop (l : List S33) (hl : l.length ≤ 100000) (hp : ∀ y ∈ l, partsR y ≤ 100000) : ∀ n i, i + n = l.length → ∃ k, eddylaw5_sameRecs.l0 k l l (i : Int) = some true := by
  intro n
  induction n with
  | zero =>
    intro i hi
    refine ⟨1, ?_⟩
    simp only [eddylaw5_sameRecs.l0]
    rw [if_neg (by omega)]
  | succ n ihn =>
    intro i hi
    have hlt : i < l.length := by omega
    obtain ⟨k1, h1⟩ := ihn (i + 1) (by omega)
    have hrd : rd_T33 l (i : Int) = l[i] := by unfold rd_T33; rw [Int.toNat_natCast, List.getD_eq_getElem?_getD, List.getElem?_eq_getElem hlt]; rfl
    obtain ⟨k2, h2⟩ := sr_refl l[i] (hp _ (List.getElem_mem hlt))
    have m1 := at_rounds (g := fun k => eddylaw5_sameRecs.l0 k l l ((i + 1 : Nat) : Int)) (fun k => eddylaw5_sameRecs.mono_l k _ _ _) (Nat.le_max_left k1 k2) h1
    have m2 := at_rounds (g := fun k => eddylaw5_sameRec.f k l[i].f0 l[i].f1.f0 l[i].f1.f1 l[i].f1.f2 l[i].f1.f3 l[i].f2 l[i].f0 l[i].f1.f0 l[i].f1.f1 l[i].f1.f2 l[i].f1.f3 l[i].f2) (fun k => eddylaw5_sameRec.mono _ _ _ _ _ _ _ _ _ _ _ _ k) (Nat.le_max_right k1 k2) h2
    refine ⟨max k1 k2 + 1, ?_⟩
    simp only [eddylaw5_sameRecs.l0]
    rw [if_pos (by omega), if_pos (by omega), if_pos (by omega), hrd, m2]
    simp only [Option.bind_some, if_true]
    rw [w64 i (by omega)]
    exact m1
/-- Equal records are the same. -/
theorem same13 (x : S33) (A4 A5 B4 B5 : Option Addr) (c4 c5 d4 d5 : Nat) (w : World) (h1 : Kd.C k30 w A4 x.f1.f3.length x.f1.f3) (l1 : x.f1.f3.length ≤ c4) (h2 : Kd.C (Kd.int .i64) w A5 x.f2.length x.f2) (l2 : x.f2.length ≤ c5) (h3 : Kd.C k30 w B4 x.f1.f3.length x.f1.f3) (l3 : x.f1.f3.length ≤ d4) (h4 : Kd.C (Kd.int .i64) w B5 x.f2.length x.f2) (l4 : x.f2.length ≤ d5) (hp : partsR x ≤ 100000) :
    Calls Try.prog 13 #[.agg #[.string x.f0, .int .i64 x.f1.f0, .int .i64 x.f1.f1, .string x.f1.f2, .slice A4 x.f1.f3.length c4, .slice A5 x.f2.length c5], .agg #[.string x.f0, .int .i64 x.f1.f0, .int .i64 x.f1.f1, .string x.f1.f2, .slice B4 x.f1.f3.length d4, .slice B5 x.f2.length d5]] w fun e w' => e = .returned (.bool true) ∧ Hid (Below w.heap.size w w') := by
  obtain ⟨k, hk⟩ := sr_refl x hp
  exact (eddylaw5_sameRec.calls k _ _ _ _ A4 c4 _ A5 c5 _ _ _ _ _ B4 d4 _ B5 d5 _ true w h1 l1 h2 l2 h3 l3 h4 l4 hk).mono (fun e w' h => ⟨h.1, Lib.hid h.2⟩)
theorem same11 (l : List S33) (A B : Option Addr) (c d : Nat) (w : World) (h1 : Kd.C k33 w A l.length l) (l1 : l.length ≤ c) (h2 : Kd.C k33 w B l.length l) (l2 : l.length ≤ d) (hl : l.length ≤ 100000) (hp : ∀ y ∈ l, partsR y ≤ 100000) :
    Calls Try.prog 11 #[.slice A l.length c, .slice B l.length d] w fun e w' => e = .returned (.bool true) ∧ Hid (Below w.heap.size w w') := by
  obtain ⟨k, hk⟩ := rs_loop l hl hp l.length 0 (by omega)
  refine (eddylaw5_sameRecs.calls k A c l B d l true w h1 l1 h2 l2 ?_).mono (fun e w' h => ⟨h.1, Lib.hid h.2⟩)
  unfold eddylaw5_sameRecs.f
  rw [if_pos rfl]
  exact hk
theorem same18 (x : S35) (A4 A5 B4 B5 : Option Addr) (c4 c5 d4 d5 : Nat) (w : World) (h1 : Kd.C k30 w A4 x.f1.f1.f3.length x.f1.f1.f3) (l1 : x.f1.f1.f3.length ≤ c4) (h2 : Kd.C (Kd.int .i64) w A5 x.f1.f2.length x.f1.f2) (l2 : x.f1.f2.length ≤ c5) (h3 : Kd.C k30 w B4 x.f1.f1.f3.length x.f1.f1.f3) (l3 : x.f1.f1.f3.length ≤ d4) (h4 : Kd.C (Kd.int .i64) w B5 x.f1.f2.length x.f1.f2) (l4 : x.f1.f2.length ≤ d5) (hp : partsR x.f1 ≤ 100000) :
    Calls Try.prog 18 #[.agg #[.int .i64 x.f0, .string x.f1.f0, .int .i64 x.f1.f1.f0, .int .i64 x.f1.f1.f1, .string x.f1.f1.f2, .slice A4 x.f1.f1.f3.length c4, .slice A5 x.f1.f2.length c5], .agg #[.int .i64 x.f0, .string x.f1.f0, .int .i64 x.f1.f1.f0, .int .i64 x.f1.f1.f1, .string x.f1.f1.f2, .slice B4 x.f1.f1.f3.length d4, .slice B5 x.f1.f2.length d5]] w fun e w' => e = .returned (.bool true) ∧ Hid (Below w.heap.size w w') := by
  obtain ⟨k, hk⟩ := sr_refl x.f1 hp
  refine (eddylaw5_sameItem.calls k _ _ _ _ _ A4 c4 _ A5 c5 _ _ _ _ _ _ B4 d4 _ B5 d5 _ true w h1 l1 h2 l2 h3 l3 h4 l4 ?_).mono (fun e w' h => ⟨h.1, Lib.hid h.2⟩)
  unfold eddylaw5_sameItem.f
  rw [if_pos rfl, hk]
  rfl
/-- The places of the markers: how many records lie ahead of each. -/
def places : List S35 → Int → List Int
  | [], _ => []
  | x :: l, n => if 0 < x.f0 then n :: places l n else places l (n + 1)
theorem marks_loop (l : List S35) (hl : l.length ≤ 900000) : ∀ d i (acc : List Int) (n : Nat), i + d = l.length → n ≤ i → acc.length ≤ i → ∃ k, eddylaw5_marksAhead.l0 k l acc (n : Int) (i : Int) = some (acc ++ places (l.drop i) n) := by
  intro d
  induction d with
  | zero =>
    intro i acc n hi hn ha
    refine ⟨1, ?_⟩
    simp only [eddylaw5_marksAhead.l0]
    rw [if_neg (by omega), List.drop_of_length_le (by omega)]
    simp [places]
  | succ d ihd =>
    intro i acc n hi hn ha
    have hlt : i < l.length := by omega
    have hrd : rd_T35 l (i : Int) = l[i] := by unfold rd_T35; rw [Int.toNat_natCast, List.getD_eq_getElem?_getD, List.getElem?_eq_getElem hlt]; rfl
    rw [List.drop_eq_getElem_cons hlt]
    by_cases hm : 0 < l[i].f0
    · obtain ⟨k1, h1⟩ := ihd (i + 1) (acc ++ [(n : Int)]) n (by omega) (by omega) (by rw [List.length_append, List.length_singleton]; omega)
      refine ⟨k1 + 1, ?_⟩
      simp only [eddylaw5_marksAhead.l0, places]
      rw [if_pos (by omega), if_pos (by omega), hrd, if_pos (by omega), if_pos (by omega), if_pos hm, w64 i (by omega), h1]
      simp
    · obtain ⟨k1, h1⟩ := ihd (i + 1) acc (n + 1) (by omega) (by omega) (by omega)
      refine ⟨k1 + 1, ?_⟩
      simp only [eddylaw5_marksAhead.l0, places]
      rw [if_pos (by omega), if_pos (by omega), hrd, if_neg (by omega), if_neg hm, w64 i (by omega), w64 n (by omega), h1]
      simp
theorem marks9 (l : List S35) (A : Option Addr) (c : Nat) (w : World) (hC : Kd.C k35 w A l.length l) (hc : l.length ≤ c) (hl : l.length ≤ 900000) :
    Calls Try.prog 9 #[.slice A l.length c] w fun e w' => ∃ v, e = .returned v ∧ Hid ((Kd.int .i64).R 3 w' w.heap.size (fun _ => True) v (places l 0)) ∧ Hid (Below w.heap.size w w') := by
  obtain ⟨k, hk⟩ := marks_loop l hl l.length 0 [] 0 (by omega) (Nat.le_refl _) (Nat.le_refl _)
  refine (eddylaw5_marksAhead.calls k A c l _ w hC hc (by unfold eddylaw5_marksAhead.f; exact hk)).mono ?_
  rintro e w' ⟨v, rfl, h1, h2⟩
  exact ⟨v, rfl, Lib.hid (by simpa using h1), Lib.hid h2⟩
end Go.Proofs.Ytcbfddhdaamimaa.PLaneFifo
