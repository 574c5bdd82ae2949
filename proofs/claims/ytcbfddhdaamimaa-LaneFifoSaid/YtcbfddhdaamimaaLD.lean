/- values, copied: what the lane is handed in new memory. -/
import Derived.Test.YtcbfddhdaamimaaLC
namespace Go.Proofs.Ytcbfddhdaamimaa.PLaneFifo
open Go.RowKit Go.Conc Go.Proofs.YtcbfddhdaamimaaW.PrintWords Go.Proofs.YtcbfddhdaamimaaW.PrintLast
set_option linter.unusedVariables false
set_option linter.unusedSimpArgs false

theorem S30.eta (y : S30) : (⟨y.f0, y.f1, y.f2, y.f3⟩ : S30) = y := by cases y; rfl
theorem vals_loop (l : List S30) (hl : l.length ≤ 100000) (ih : ∀ y ∈ l, ∃ k, lane_values.f k y.f3 = some y.f3) : ∀ d i, i + d = l.length → ∃ k, lane_values.l0 k (l.take i) l (l.length : Int) (i : Int) = some l := by
  intro d
  induction d with
  | zero =>
    intro i hi
    refine ⟨1, ?_⟩
    simp only [lane_values.l0]
    rw [if_neg (by omega), List.take_of_length_le (by omega)]
  | succ d ihd =>
    intro i hi
    have hlt : i < l.length := by omega
    obtain ⟨k1, h1⟩ := ihd (i + 1) (by omega)
    have hrd : rd_T30 l (i : Int) = l[i] := by unfold rd_T30; rw [Int.toNat_natCast, List.getD_eq_getElem?_getD, List.getElem?_eq_getElem hlt]; rfl
    obtain ⟨k2, h2⟩ := ih l[i] (List.getElem_mem hlt)
    have m1 := at_rounds (g := fun k => lane_values.l0 k (l.take (i + 1)) l (l.length : Int) ((i + 1 : Nat) : Int)) (fun k => (lane_values.mono_l k).2 _ _ _ _) (Nat.le_max_left k1 k2) h1
    have m2 := at_rounds (g := fun k => lane_values.f k l[i].f3) (fun k => (lane_values.mono_l k).1 _) (Nat.le_max_right k1 k2) h2
    refine ⟨max k1 k2 + 1, ?_⟩
    simp only [lane_values.l0]
    rw [if_pos (by omega), if_pos (by omega), if_pos (by omega), hrd, m2]
    simp only [Option.bind_some]
    have hw : wrap64 ((i : Int) + 1) = ((i + 1 : Nat) : Int) := by unfold wrap64; omega
    rw [if_pos (by rw [List.length_take]; omega), hw, S30.eta l[i], ← List.take_succ_eq_append_getElem hlt]
    exact m1
theorem vals_all : ∀ (N : Nat) (l : List S30), SizeOf.sizeOf l ≤ N → partsV l ≤ 100000 → ∃ k, lane_values.f k l = some l
  | 0, l, h, _ => by cases l <;> simp at h
  | N + 1, l, h, hp => by
    have hl := partsV_len l
    obtain ⟨k, hk⟩ := vals_loop l (by omega) (fun y hy => vals_all N y.f3 (by
      have := List.sizeOf_lt_of_mem hy
      cases y
      simp at this ⊢
      omega) (by have := partsV_mem hy; omega)) l.length 0 (by omega)
    exact ⟨k + 1, by simp only [lane_values.f]; exact hk⟩
theorem values36 (l : List S30) (A : Option Addr) (c : Nat) (w : World) (hC : Kd.C k30 w A l.length l) (hc : l.length ≤ c) (hp : partsV l ≤ 100000) :
    Calls Try.prog 36 #[.slice A l.length c] w fun e w' => ∃ v, e = .returned v ∧ Hid (Kd.R k30 30 w' w.heap.size (fun _ => True) v l) ∧ Hid (Below w.heap.size w w') := by
  obtain ⟨k, hk⟩ := vals_all _ l (Nat.le_refl _) hp
  refine (lane_values.calls k A c l l w hC hc hk).mono ?_
  rintro e w' ⟨v, rfl, h1, h2⟩
  exact ⟨v, rfl, Lib.hid h1, Lib.hid h2⟩
set_option maxRecDepth 100000 in
set_option maxHeartbeats 4000000 in
theorem copied27_rec (x : S35) (A5 : Option Addr) (c5 : Nat) (A6 : Option Addr) (c6 : Nat) (w : World) (hC5 : Kd.C k30 w A5 x.f1.f1.f3.length x.f1.f1.f3) (hc5 : x.f1.f1.f3.length ≤ c5) (hC6 : Kd.C (Kd.int .i64) w A6 x.f1.f2.length x.f1.f2) (hc6 : x.f1.f2.length ≤ c6) (hp : partsR x.f1 ≤ 100000) (hm : ¬ 0 < x.f0) :
    Calls Try.prog 27 #[.agg #[.int .i64 x.f0, .string x.f1.f0, .int .i64 x.f1.f1.f0, .int .i64 x.f1.f1.f1, .string x.f1.f1.f2, .slice A5 x.f1.f1.f3.length c5, .slice A6 x.f1.f2.length c6]] w fun e w' => ∃ v5 v6, e = .returned (.agg #[.int .i64 x.f0, .string x.f1.f0, .int .i64 x.f1.f1.f0, .int .i64 x.f1.f1.f1, .string x.f1.f1.f2, v5, v6]) ∧ Hid (Kd.R k30 30 w' w.heap.size (fun _ => True) v5 x.f1.f1.f3) ∧ Hid (Kd.R (Kd.int .i64) 3 w' w.heap.size (fun _ => True) v6 x.f1.f2) ∧ Hid (Below w.heap.size w w') := by
  have HY := Lib.hid (values36 x.f1.f1.f3 A5 c5 ((w.alloc (.cells #[.int .i64 x.f0, .string x.f1.f0, .int .i64 x.f1.f1.f0, .int .i64 x.f1.f1.f1, .string x.f1.f1.f2, .slice A5 x.f1.f1.f3.length c5, .slice A6 x.f1.f2.length c6] 35)).alloc (.cells #[.int .i64 0, .string ⟨#[]⟩, .int .i64 0, .int .i64 0, .string ⟨#[]⟩, .slice none 0 0, .slice none 0 0] 35)) (Kd.C_alloc (Kd.C_alloc hC5 _) _) hc5 (by unfold partsR at hp; omega))
  have HC6 := Lib.hid hC6
  have hp6 : Hid (x.f1.f2.length ≤ 100000) := by unfold partsR at hp; show _ ≤ _; omega
  have hd : decide (0 < x.f0) = false := decide_eq_false hm
  clear hC5 hc5 hC6 hc6 hp hm
  go_enter Try.func27, Try.ntmps27
  go_wp2_with (first
    | (go_at_call 36; refine HY.out.mono ?_; rintro e w1 ⟨v, rfl, hv, hb⟩
       obtain ⟨Av, cv, rfl⟩ := Kd.R_slice hv.out
       have HBw : Hid (Below w.heap.size w w1) := (((Below.refl _ _).alloc (Nat.le_refl _) _).alloc (by simp) _).trans (hb.out.mono (by simp only [World.size_alloc]; omega))
       have hv2 : Hid (Kd.R k30 30 w1 (w.heap.size + 2) (fun _ => True) (.slice Av x.f1.f1.f3.length cv) x.f1.f1.f3) := by
         have := hv.out
         simp only [World.size_alloc] at this
         exact this
       have B1 : Hid (w1.heap[w.heap.size]? = some (.cells #[.int .i64 x.f0, .string x.f1.f0, .int .i64 x.f1.f1.f0, .int .i64 x.f1.f1.f1, .string x.f1.f1.f2, .slice A5 x.f1.f1.f3.length c5, .slice A6 x.f1.f2.length c6] 35 (0, 0))) := blk_below (blk_alloc (blk_new w _) _) hb.out
       have B2 : Hid (w1.heap[w.heap.size + 1]? = some (.cells #[.int .i64 0, .string ⟨#[]⟩, .int .i64 0, .int .i64 0, .string ⟨#[]⟩, .slice none 0 0, .slice none 0 0] 35 (0, 0))) := blk_below (by
         have := blk_new (w.alloc (.cells #[.int .i64 x.f0, .string x.f1.f0, .int .i64 x.f1.f1.f0, .int .i64 x.f1.f1.f1, .string x.f1.f1.f2, .slice A5 x.f1.f1.f3.length c5, .slice A6 x.f1.f2.length c6] 35)) (.cells #[.int .i64 0, .string ⟨#[]⟩, .int .i64 0, .int .i64 0, .string ⟨#[]⟩, .slice none 0 0, .slice none 0 0] 35)
         simp only [World.size_alloc] at this
         exact this) hb.out
       have q0 : w1.cell? ⟨w.heap.size, 0, none⟩ = some (.int .i64 x.f0) := blk_at B1.out 0 rfl
       have f0 : w1.frozen? ⟨w.heap.size, 0, none⟩ = false := blk_frozen B1.out 0
       have q1 : w1.cell? ⟨w.heap.size, 1, none⟩ = some (.string x.f1.f0) := blk_at B1.out 1 rfl
       have f1 : w1.frozen? ⟨w.heap.size, 1, none⟩ = false := blk_frozen B1.out 1
       have q2 : w1.cell? ⟨w.heap.size, 2, none⟩ = some (.int .i64 x.f1.f1.f0) := blk_at B1.out 2 rfl
       have f2 : w1.frozen? ⟨w.heap.size, 2, none⟩ = false := blk_frozen B1.out 2
       have q3 : w1.cell? ⟨w.heap.size, 3, none⟩ = some (.int .i64 x.f1.f1.f1) := blk_at B1.out 3 rfl
       have f3 : w1.frozen? ⟨w.heap.size, 3, none⟩ = false := blk_frozen B1.out 3
       have q4 : w1.cell? ⟨w.heap.size, 4, none⟩ = some (.string x.f1.f1.f2) := blk_at B1.out 4 rfl
       have f4 : w1.frozen? ⟨w.heap.size, 4, none⟩ = false := blk_frozen B1.out 4
       have q5 : w1.cell? ⟨w.heap.size, 5, none⟩ = some (.slice A5 x.f1.f1.f3.length c5) := blk_at B1.out 5 rfl
       have f5 : w1.frozen? ⟨w.heap.size, 5, none⟩ = false := blk_frozen B1.out 5
       have q6 : w1.cell? ⟨w.heap.size, 6, none⟩ = some (.slice A6 x.f1.f2.length c6) := blk_at B1.out 6 rfl
       have f6 : w1.frozen? ⟨w.heap.size, 6, none⟩ = false := blk_frozen B1.out 6
       have d0 : w1.cell? ⟨(w.heap.size + 1), 0, none⟩ = some (.int .i64 0) := blk_at B2.out 0 rfl
       have g0 : w1.frozen? ⟨(w.heap.size + 1), 0, none⟩ = false := blk_frozen B2.out 0
       have d1 : w1.cell? ⟨(w.heap.size + 1), 1, none⟩ = some (.string ⟨#[]⟩) := blk_at B2.out 1 rfl
       have g1 : w1.frozen? ⟨(w.heap.size + 1), 1, none⟩ = false := blk_frozen B2.out 1
       have d2 : w1.cell? ⟨(w.heap.size + 1), 2, none⟩ = some (.int .i64 0) := blk_at B2.out 2 rfl
       have g2 : w1.frozen? ⟨(w.heap.size + 1), 2, none⟩ = false := blk_frozen B2.out 2
       have d3 : w1.cell? ⟨(w.heap.size + 1), 3, none⟩ = some (.int .i64 0) := blk_at B2.out 3 rfl
       have g3 : w1.frozen? ⟨(w.heap.size + 1), 3, none⟩ = false := blk_frozen B2.out 3
       have d4 : w1.cell? ⟨(w.heap.size + 1), 4, none⟩ = some (.string ⟨#[]⟩) := blk_at B2.out 4 rfl
       have g4 : w1.frozen? ⟨(w.heap.size + 1), 4, none⟩ = false := blk_frozen B2.out 4
       have d5 : w1.cell? ⟨(w.heap.size + 1), 5, none⟩ = some (.slice none 0 0) := blk_at B2.out 5 rfl
       have g5 : w1.frozen? ⟨(w.heap.size + 1), 5, none⟩ = false := blk_frozen B2.out 5
       have d6 : w1.cell? ⟨(w.heap.size + 1), 6, none⟩ = some (.slice none 0 0) := blk_at B2.out 6 rfl
       have g6 : w1.frozen? ⟨(w.heap.size + 1), 6, none⟩ = false := blk_frozen B2.out 6
       clear hb hv)
    | (at_builtin; refine Kd.R_append_row (Value.int .i64) 0 (h1 := fun _ => rfl) (w0 := w1.setCell ⟨w.heap.size, 5, none⟩ (.slice Av x.f1.f1.f3.length cv)) (w.heap.size + 2) rfl (.const (.slice none 0 0)) (.tmp 19) 31 3 (.int .i64 0) 8 rfl Try.underlying31 info3 rfl (by decide) (.slice none 0 0) [] x.f1.f2 A6 x.f1.f2.length c6 (fun _ => True) rfl rfl (fun _ _ => trivial) (Kd.R_nil _ _ _ _ _) ?hR (Below.refl _ _) ?hS ?hl ?_
       case hR => exact Kd.C_below HC6.out (HBw.out.setCell (Nat.le_refl _) _)
       case hS => simp only [World.size_setCell]; exact blk_lt B2.out
       case hl => have := hp6.out; simp only [List.length_nil]; omega
       intro v1 w2 HO2 HB2 hg hat
       rw [List.nil_append] at HO2
       obtain ⟨Ao, co, rfl⟩ := Kd.R_slice HO2
       have HO2' := Lib.hid HO2
       have D1 : Hid (w2.heap[w.heap.size]? = some (.cells #[.int .i64 x.f0, .string x.f1.f0, .int .i64 x.f1.f1.f0, .int .i64 x.f1.f1.f1, .string x.f1.f1.f2, .slice Av x.f1.f1.f3.length cv, .slice A6 x.f1.f2.length c6] 35 (0, 0))) := (HB2.block _ (by omega)).trans (blk_put B1.out 5 _ rfl)
       have D2 : Hid (w2.heap[w.heap.size + 1]? = some (.cells #[.int .i64 0, .string ⟨#[]⟩, .int .i64 0, .int .i64 0, .string ⟨#[]⟩, .slice none 0 0, .slice none 0 0] 35 (0, 0))) := (HB2.block _ (by omega)).trans (blk_far B2.out (by simp) _)
       have HD : Hid (Below w.heap.size w w2) := (HBw.out.setCell (Nat.le_refl _) _).trans (HB2.mono (by omega))
       have HV : Hid (Kd.R k30 30 w2 (w.heap.size + 2) (fun k => some k ≠ (Value.slice none 0 0).ownBlock) (.slice Av x.f1.f1.f3.length cv) x.f1.f1.f3) := Kd.R_grown (Kd.R_mono (R_low hv2.out (by simp) _) (fun k _ => by simp [Value.ownBlock])) hg (fun k hk => hk)
       have u0 : w2.cell? ⟨w.heap.size, 0, none⟩ = some (.int .i64 x.f0) := blk_at D1.out 0 rfl
       have k0 : w2.frozen? ⟨w.heap.size, 0, none⟩ = false := blk_frozen D1.out 0
       have u1 : w2.cell? ⟨w.heap.size, 1, none⟩ = some (.string x.f1.f0) := blk_at D1.out 1 rfl
       have k1 : w2.frozen? ⟨w.heap.size, 1, none⟩ = false := blk_frozen D1.out 1
       have u2 : w2.cell? ⟨w.heap.size, 2, none⟩ = some (.int .i64 x.f1.f1.f0) := blk_at D1.out 2 rfl
       have k2 : w2.frozen? ⟨w.heap.size, 2, none⟩ = false := blk_frozen D1.out 2
       have u3 : w2.cell? ⟨w.heap.size, 3, none⟩ = some (.int .i64 x.f1.f1.f1) := blk_at D1.out 3 rfl
       have k3 : w2.frozen? ⟨w.heap.size, 3, none⟩ = false := blk_frozen D1.out 3
       have u4 : w2.cell? ⟨w.heap.size, 4, none⟩ = some (.string x.f1.f1.f2) := blk_at D1.out 4 rfl
       have k4 : w2.frozen? ⟨w.heap.size, 4, none⟩ = false := blk_frozen D1.out 4
       have u5 : w2.cell? ⟨w.heap.size, 5, none⟩ = some (.slice Av x.f1.f1.f3.length cv) := blk_at D1.out 5 rfl
       have k5 : w2.frozen? ⟨w.heap.size, 5, none⟩ = false := blk_frozen D1.out 5
       have u6 : w2.cell? ⟨w.heap.size, 6, none⟩ = some (.slice A6 x.f1.f2.length c6) := blk_at D1.out 6 rfl
       have k6 : w2.frozen? ⟨w.heap.size, 6, none⟩ = false := blk_frozen D1.out 6
       have z0 : w2.cell? ⟨(w.heap.size + 1), 0, none⟩ = some (.int .i64 0) := blk_at D2.out 0 rfl
       have h0 : w2.frozen? ⟨(w.heap.size + 1), 0, none⟩ = false := blk_frozen D2.out 0
       have z1 : w2.cell? ⟨(w.heap.size + 1), 1, none⟩ = some (.string ⟨#[]⟩) := blk_at D2.out 1 rfl
       have h1 : w2.frozen? ⟨(w.heap.size + 1), 1, none⟩ = false := blk_frozen D2.out 1
       have z2 : w2.cell? ⟨(w.heap.size + 1), 2, none⟩ = some (.int .i64 0) := blk_at D2.out 2 rfl
       have h2 : w2.frozen? ⟨(w.heap.size + 1), 2, none⟩ = false := blk_frozen D2.out 2
       have z3 : w2.cell? ⟨(w.heap.size + 1), 3, none⟩ = some (.int .i64 0) := blk_at D2.out 3 rfl
       have h3 : w2.frozen? ⟨(w.heap.size + 1), 3, none⟩ = false := blk_frozen D2.out 3
       have z4 : w2.cell? ⟨(w.heap.size + 1), 4, none⟩ = some (.string ⟨#[]⟩) := blk_at D2.out 4 rfl
       have h4 : w2.frozen? ⟨(w.heap.size + 1), 4, none⟩ = false := blk_frozen D2.out 4
       have z5 : w2.cell? ⟨(w.heap.size + 1), 5, none⟩ = some (.slice none 0 0) := blk_at D2.out 5 rfl
       have h5 : w2.frozen? ⟨(w.heap.size + 1), 5, none⟩ = false := blk_frozen D2.out 5
       have z6 : w2.cell? ⟨(w.heap.size + 1), 6, none⟩ = some (.slice none 0 0) := blk_at D2.out 6 rfl
       have h6 : w2.frozen? ⟨(w.heap.size + 1), 6, none⟩ = false := blk_frozen D2.out 6
       clear HO2 HB2 hg hat))
  refine bodyPost_ret (results_cell_row rfl _ _ (w.heap.size + 1) 35 #[.int .i64 x.f0, .string x.f1.f0, .int .i64 x.f1.f1.f0, .int .i64 x.f1.f1.f1, .string x.f1.f1.f2, .slice Av x.f1.f1.f3.length cv, .slice Ao x.f1.f2.length co] (0, 0) _ rfl ?_ Try.underlying35 rfl (by kernel_rfl)) rfl ⟨_, _, rfl, ?_, ?_, ?_⟩
  · exact (blk_put (blk_put (blk_put (blk_put (blk_put (blk_put (blk_put (blk_far D2.out (by simp) _) 0 _ rfl) 1 _ rfl) 2 _ rfl) 3 _ rfl) 4 _ rfl) 5 _ rfl) 6 _ rfl)
  · refine Lib.hid ?_
    refine Kd.R_lower (base := w.heap.size + 2) ?_ (Nat.le_add_right _ _)
    iterate 8 refine R_low ?_ (by simp only []; omega) _
    exact Kd.R_mono HV.out (fun _ _ => trivial)
  · refine Lib.hid ?_
    refine Kd.R_lower (base := w.heap.size + 2) ?_ (Nat.le_add_right _ _)
    iterate 8 refine R_low ?_ (by simp only []; omega) _
    exact HO2'.out
  · refine Lib.hid ?_
    iterate 8 refine Below.setCell ?_ (by simp) _
    exact HD.out
set_option maxRecDepth 100000 in
set_option maxHeartbeats 4000000 in
theorem copied27_mark (x : S35) (A5 : Option Addr) (c5 : Nat) (A6 : Option Addr) (c6 : Nat) (w : World) (hm : 0 < x.f0) :
    Calls Try.prog 27 #[.agg #[.int .i64 x.f0, .string x.f1.f0, .int .i64 x.f1.f1.f0, .int .i64 x.f1.f1.f1, .string x.f1.f1.f2, .slice A5 x.f1.f1.f3.length c5, .slice A6 x.f1.f2.length c6]] w fun e w' => e = .returned (.agg #[.int .i64 x.f0, .string ⟨#[]⟩, .int .i64 0, .int .i64 0, .string ⟨#[]⟩, .slice none 0 0, .slice none 0 0]) ∧ Hid (Below w.heap.size w w') := by
  have hd : decide (0 < x.f0) = true := decide_eq_true hm
  clear hm
  have B2 : Hid (((w.alloc (.cells #[.int .i64 x.f0, .string x.f1.f0, .int .i64 x.f1.f1.f0, .int .i64 x.f1.f1.f1, .string x.f1.f1.f2, .slice A5 x.f1.f1.f3.length c5, .slice A6 x.f1.f2.length c6] 35)).alloc (.cells #[.int .i64 0, .string ⟨#[]⟩, .int .i64 0, .int .i64 0, .string ⟨#[]⟩, .slice none 0 0, .slice none 0 0] 35)).heap[w.heap.size + 1]? = some (.cells #[.int .i64 0, .string ⟨#[]⟩, .int .i64 0, .int .i64 0, .string ⟨#[]⟩, .slice none 0 0, .slice none 0 0] 35 (0, 0))) := by
    have := blk_new (w.alloc (.cells #[.int .i64 x.f0, .string x.f1.f0, .int .i64 x.f1.f1.f0, .int .i64 x.f1.f1.f1, .string x.f1.f1.f2, .slice A5 x.f1.f1.f3.length c5, .slice A6 x.f1.f2.length c6] 35)) (.cells #[.int .i64 0, .string ⟨#[]⟩, .int .i64 0, .int .i64 0, .string ⟨#[]⟩, .slice none 0 0, .slice none 0 0] 35)
    simp only [World.size_alloc] at this
    exact this
  have B1 : Hid (((w.alloc (.cells #[.int .i64 x.f0, .string x.f1.f0, .int .i64 x.f1.f1.f0, .int .i64 x.f1.f1.f1, .string x.f1.f1.f2, .slice A5 x.f1.f1.f3.length c5, .slice A6 x.f1.f2.length c6] 35)).alloc (.cells #[.int .i64 0, .string ⟨#[]⟩, .int .i64 0, .int .i64 0, .string ⟨#[]⟩, .slice none 0 0, .slice none 0 0] 35)).heap[w.heap.size]? = some (.cells #[.int .i64 x.f0, .string x.f1.f0, .int .i64 x.f1.f1.f0, .int .i64 x.f1.f1.f1, .string x.f1.f1.f2, .slice A5 x.f1.f1.f3.length c5, .slice A6 x.f1.f2.length c6] 35 (0, 0))) := blk_alloc (blk_new w _) _
  have HB : Hid (Below w.heap.size w ((w.alloc (.cells #[.int .i64 x.f0, .string x.f1.f0, .int .i64 x.f1.f1.f0, .int .i64 x.f1.f1.f1, .string x.f1.f1.f2, .slice A5 x.f1.f1.f3.length c5, .slice A6 x.f1.f2.length c6] 35)).alloc (.cells #[.int .i64 0, .string ⟨#[]⟩, .int .i64 0, .int .i64 0, .string ⟨#[]⟩, .slice none 0 0, .slice none 0 0] 35))) := ((Below.refl _ _).alloc (Nat.le_refl _) _).alloc (by simp) _
  go_enter Try.func27, Try.ntmps27
  go_upto_region 1 with (fail)
  generalize (w.alloc (.cells #[.int .i64 x.f0, .string x.f1.f0, .int .i64 x.f1.f1.f0, .int .i64 x.f1.f1.f1, .string x.f1.f1.f2, .slice A5 x.f1.f1.f3.length c5, .slice A6 x.f1.f2.length c6] 35)).alloc (.cells #[.int .i64 0, .string ⟨#[]⟩, .int .i64 0, .int .i64 0, .string ⟨#[]⟩, .slice none 0 0, .slice none 0 0] 35) = w1 at *
  have q0 : w1.cell? ⟨w.heap.size, 0, none⟩ = some (.int .i64 x.f0) := blk_at B1.out 0 rfl
  have f0 : w1.frozen? ⟨w.heap.size, 0, none⟩ = false := blk_frozen B1.out 0
  have d0 : w1.cell? ⟨(w.heap.size + 1), 0, none⟩ = some (.int .i64 0) := blk_at B2.out 0 rfl
  have g0 : w1.frozen? ⟨(w.heap.size + 1), 0, none⟩ = false := blk_frozen B2.out 0
  have d1 : w1.cell? ⟨(w.heap.size + 1), 1, none⟩ = some (.string ⟨#[]⟩) := blk_at B2.out 1 rfl
  have g1 : w1.frozen? ⟨(w.heap.size + 1), 1, none⟩ = false := blk_frozen B2.out 1
  have d2 : w1.cell? ⟨(w.heap.size + 1), 2, none⟩ = some (.int .i64 0) := blk_at B2.out 2 rfl
  have g2 : w1.frozen? ⟨(w.heap.size + 1), 2, none⟩ = false := blk_frozen B2.out 2
  have d3 : w1.cell? ⟨(w.heap.size + 1), 3, none⟩ = some (.int .i64 0) := blk_at B2.out 3 rfl
  have g3 : w1.frozen? ⟨(w.heap.size + 1), 3, none⟩ = false := blk_frozen B2.out 3
  have d4 : w1.cell? ⟨(w.heap.size + 1), 4, none⟩ = some (.string ⟨#[]⟩) := blk_at B2.out 4 rfl
  have g4 : w1.frozen? ⟨(w.heap.size + 1), 4, none⟩ = false := blk_frozen B2.out 4
  have d5 : w1.cell? ⟨(w.heap.size + 1), 5, none⟩ = some (.slice none 0 0) := blk_at B2.out 5 rfl
  have g5 : w1.frozen? ⟨(w.heap.size + 1), 5, none⟩ = false := blk_frozen B2.out 5
  have d6 : w1.cell? ⟨(w.heap.size + 1), 6, none⟩ = some (.slice none 0 0) := blk_at B2.out 6 rfl
  have g6 : w1.frozen? ⟨(w.heap.size + 1), 6, none⟩ = false := blk_frozen B2.out 6
  go_wp2_with (fail)
  refine bodyPost_ret (results_cell_row rfl _ _ (w.heap.size + 1) 35 #[.int .i64 x.f0, .string ⟨#[]⟩, .int .i64 0, .int .i64 0, .string ⟨#[]⟩, .slice none 0 0, .slice none 0 0] (0, 0) _ rfl ?_ Try.underlying35 rfl (by kernel_rfl)) rfl ⟨rfl, ?_⟩
  · exact (blk_put (blk_put (blk_put (blk_put (blk_put (blk_put (blk_put B2.out 0 _ rfl) 1 _ rfl) 2 _ rfl) 3 _ rfl) 4 _ rfl) 5 _ rfl) 6 _ rfl)
  · refine Lib.hid ?_
    iterate 7 refine Below.setCell ?_ (by simp) _
    exact HB.out
/-- What the lane makes of an item: a marker carries no record. -/
def cop (x : S35) : S35 := if 0 < x.f0 then ⟨x.f0, z33⟩ else x
theorem cop_cop (x : S35) : cop (cop x) = cop x := by
  unfold cop
  by_cases h : 0 < x.f0 <;> simp [h]
theorem cop_f0 (x : S35) : (cop x).f0 = x.f0 := by
  unfold cop
  by_cases h : 0 < x.f0 <;> simp [h]
theorem partsR_cop (x : S35) : partsR (cop x).f1 ≤ partsR x.f1 := by
  unfold cop
  by_cases h : 0 < x.f0
  · rw [if_pos h]
    unfold partsR
    simp [z33, z30, partsV]
    omega
  · rw [if_neg h]
    exact Nat.le_refl _
theorem St35_mk {own : Nat → Nat} {w : World} (x : S35) {A5 : Option Addr} {c5 : Nat} (l5 : x.f1.f1.f3.length ≤ c5) (g5 : StC k30 own w A5 x.f1.f1.f3.length x.f1.f1.f3) {A6 : Option Addr} {c6 : Nat} (l6 : x.f1.f2.length ≤ c6) (g6 : StC (Kd.int .i64) own w A6 x.f1.f2.length x.f1.f2) : St k35 own w x [.int .i64 x.f0, .string x.f1.f0, .int .i64 x.f1.f1.f0, .int .i64 x.f1.f1.f1, .string x.f1.f1.f2, .slice A5 x.f1.f1.f3.length c5, .slice A6 x.f1.f2.length c6] :=
  fun S o2 w2 hS hu => k35_mk w2 x l5 (g5 S o2 w2 hS hu) l6 (g6 S o2 w2 hS hu)
theorem St35_open {own : Nat → Nat} {w : World} {x : S35} {A5 : Option Addr} {c5 : Nat} {A6 : Option Addr} {c6 : Nat} (h : St k35 own w x [.int .i64 x.f0, .string x.f1.f0, .int .i64 x.f1.f1.f0, .int .i64 x.f1.f1.f1, .string x.f1.f1.f2, .slice A5 x.f1.f1.f3.length c5, .slice A6 x.f1.f2.length c6]) : x.f1.f1.f3.length ≤ c5 ∧ StC k30 own w A5 x.f1.f1.f3.length x.f1.f1.f3 ∧ x.f1.f2.length ≤ c6 ∧ StC (Kd.int .i64) own w A6 x.f1.f2.length x.f1.f2 := by
  have key : ∀ w2, k35.K w2 x [.int .i64 x.f0, .string x.f1.f0, .int .i64 x.f1.f1.f0, .int .i64 x.f1.f1.f1, .string x.f1.f1.f2, .slice A5 x.f1.f1.f3.length c5, .slice A6 x.f1.f2.length c6] → x.f1.f1.f3.length ≤ c5 ∧ k30.C w2 A5 x.f1.f1.f3.length x.f1.f1.f3 ∧ x.f1.f2.length ≤ c6 ∧ (Kd.int .i64).C w2 A6 x.f1.f2.length x.f1.f2 := by
    intro w2 hK
    obtain ⟨a, b, c, d, he, h1, h2, h3, h4⟩ := k35_open hK
    simp only [List.cons.injEq, Value.slice.injEq, true_and, and_true] at he
    obtain ⟨⟨rfl, rfl⟩, rfl, rfl⟩ := he
    exact ⟨h1, h2, h3, h4⟩
  exact ⟨(key w h.now).1, fun S o2 w2 hS hu => (key w2 (h S o2 w2 hS hu)).2.1, (key w h.now).2.2.1, fun S o2 w2 hS hu => (key w2 (h S o2 w2 hS hu)).2.2.2⟩
/-- copied: of a record, of a marker. -/
theorem copied27M (x : S35) (A5 : Option Addr) (c5 : Nat) (A6 : Option Addr) (c6 : Nat) (w : World) (hC5 : Kd.C k30 w A5 x.f1.f1.f3.length x.f1.f1.f3) (hc5 : x.f1.f1.f3.length ≤ c5) (hC6 : Kd.C (Kd.int .i64) w A6 x.f1.f2.length x.f1.f2) (hc6 : x.f1.f2.length ≤ c6) (hp : partsR x.f1 ≤ 100000) :
    Calls Try.prog 27 #[.agg #[.int .i64 x.f0, .string x.f1.f0, .int .i64 x.f1.f1.f0, .int .i64 x.f1.f1.f1, .string x.f1.f1.f2, .slice A5 x.f1.f1.f3.length c5, .slice A6 x.f1.f2.length c6]] w fun e w' => ∃ v5 v6, e = .returned (.agg #[.int .i64 (cop x).f0, .string (cop x).f1.f0, .int .i64 (cop x).f1.f1.f0, .int .i64 (cop x).f1.f1.f1, .string (cop x).f1.f1.f2, v5, v6]) ∧ Hid (Kd.R k30 30 w' w.heap.size (fun _ => True) v5 (cop x).f1.f1.f3) ∧ Hid (Kd.R (Kd.int .i64) 3 w' w.heap.size (fun _ => True) v6 (cop x).f1.f2) ∧ Hid (Below w.heap.size w w') := by
  unfold cop
  by_cases hm : 0 < x.f0
  · refine (copied27_mark x A5 c5 A6 c6 w hm).mono ?_
    rintro e w' ⟨rfl, hb⟩
    rw [if_pos hm]
    exact ⟨.slice none 0 0, .slice none 0 0, rfl, Lib.hid (Kd.R_nil _ _ _ _ _), Lib.hid (Kd.R_nil _ _ _ _ _), hb⟩
  · refine (copied27_rec x A5 c5 A6 c6 w hC5 hc5 hC6 hc6 hp hm).mono ?_
    rintro e w' ⟨v5, v6, rfl, h5, h6, hb⟩
    rw [if_neg hm]
    exact ⟨v5, v6, rfl, h5, h6, hb⟩
/-- copied: of a record, of a marker; what it answers stays for ever. -/
theorem copied27 (own own' : Nat → Nat) (x : S35) (A5 : Option Addr) (c5 : Nat) (A6 : Option Addr) (c6 : Nat) (w : World) (hC5 : Kd.C k30 w A5 x.f1.f1.f3.length x.f1.f1.f3) (hc5 : x.f1.f1.f3.length ≤ c5) (hC6 : Kd.C (Kd.int .i64) w A6 x.f1.f2.length x.f1.f2) (hc6 : x.f1.f2.length ≤ c6) (hp : partsR x.f1 ≤ 100000) (hnew : ∀ k, w.heap.size ≤ k → own' k = 0) :
    Calls Try.prog 27 #[.agg #[.int .i64 x.f0, .string x.f1.f0, .int .i64 x.f1.f1.f0, .int .i64 x.f1.f1.f1, .string x.f1.f1.f2, .slice A5 x.f1.f1.f3.length c5, .slice A6 x.f1.f2.length c6]] w fun e w' => ∃ cs, e = .returned (.agg cs.toArray) ∧ Hid (St k35 own' w' (cop x) cs) ∧ Hid (Below w.heap.size w w') := by
  unfold cop
  by_cases hm : 0 < x.f0
  · refine (copied27_mark x A5 c5 A6 c6 w hm).mono ?_
    rintro e w' ⟨rfl, hb⟩
    refine ⟨[.int .i64 x.f0, .string ⟨#[]⟩, .int .i64 0, .int .i64 0, .string ⟨#[]⟩, .slice none 0 0, .slice none 0 0], rfl, Lib.hid ?_, hb⟩
    rw [if_pos hm]
    exact St35_mk ⟨x.f0, z33⟩ (Nat.le_refl _) (StC.nil _ _ _) (Nat.le_refl _) (StC.nil _ _ _)
  · refine (copied27_rec x A5 c5 A6 c6 w hC5 hc5 hC6 hc6 hp hm).mono ?_
    rintro e w' ⟨v5, v6, rfl, h5, h6, hb⟩
    obtain ⟨Av, cv, rfl⟩ := Kd.R_slice h5.out
    obtain ⟨Ao, co, rfl⟩ := Kd.R_slice h6.out
    refine ⟨[.int .i64 x.f0, .string x.f1.f0, .int .i64 x.f1.f1.f0, .int .i64 x.f1.f1.f1, .string x.f1.f1.f2, .slice Av x.f1.f1.f3.length cv, .slice Ao x.f1.f2.length co], rfl, Lib.hid ?_, hb⟩
    rw [if_neg hm]
    exact St35_mk x (Kd.R_reads' h5.out).2.1 (StC.newly h5.out hnew) (Kd.R_reads' h6.out).2.1 (StC.newly h6.out hnew)
end Go.Proofs.Ytcbfddhdaamimaa.PLaneFifo
