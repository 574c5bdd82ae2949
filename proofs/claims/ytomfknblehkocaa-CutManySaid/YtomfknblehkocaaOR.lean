/- ownRecord, ownRecords, ownState: the copies that the book makes. -/
import Derived.Test.YtomfknblehkocaaOV
namespace Go.Proofs.Ytomfknblehkocaa.C
open Go.RowKit Go.Proofs.YtomfknblehkocaaW.PrintWords Go.Proofs.YtomfknblehkocaaW.PrintLast
set_option linter.unusedVariables false
set_option linter.unusedSimpArgs false

set_option maxRecDepth 100000 in
set_option maxHeartbeats 4000000 in
theorem ownRecord40 (x : S45) (A4 : Option Addr) (c4 : Nat) (A5 : Option Addr) (c5 : Nat) (w : World) (hC4 : Kd.C k42 w A4 x.f1.f3.length x.f1.f3) (hc4 : x.f1.f3.length ≤ c4) (hC5 : Kd.C (Kd.int .i64) w A5 x.f2.length x.f2) (hc5 : x.f2.length ≤ c5) (hp : partsR x ≤ 100000) :
    Calls Try.prog 40 #[.agg #[.string x.f0, .int .i64 x.f1.f0, .int .i64 x.f1.f1, .string x.f1.f2, .slice A4 x.f1.f3.length c4, .slice A5 x.f2.length c5]] w fun e w' => ∃ v4 v5, e = .returned (.agg #[.string x.f0, .int .i64 x.f1.f0, .int .i64 x.f1.f1, .string x.f1.f2, v4, v5]) ∧ Hid (Kd.R k42 42 w' w.heap.size (fun _ => True) v4 x.f1.f3) ∧ Hid (Kd.R (Kd.int .i64) 3 w' w.heap.size (fun _ => True) v5 x.f2) ∧ Hid (Below w.heap.size w w') := by
  have HY := Lib.hid (ownValue56 x.f1 A4 c4 ((w.alloc (.cells #[.string x.f0, .int .i64 x.f1.f0, .int .i64 x.f1.f1, .string x.f1.f2, .slice A4 x.f1.f3.length c4, .slice A5 x.f2.length c5] 45)).alloc (.cells #[.string ⟨#[]⟩, .int .i64 0, .int .i64 0, .string ⟨#[]⟩, .slice none 0 0, .slice none 0 0] 45)) (Kd.C_alloc (Kd.C_alloc hC4 _) _) hc4 (by unfold partsR at hp; omega))
  have HC5 := Lib.hid hC5
  have hp5 : Hid (x.f2.length ≤ 100000) := by unfold partsR at hp; show _ ≤ _; omega
  clear hC4 hc4 hC5 hc5 hp
  go_enter Try.func40, Try.ntmps40
  go_wp2_with (first
    | (go_at_call 56; refine HY.out.mono ?_; rintro e w1 ⟨v, rfl, hv, hb⟩
       obtain ⟨Av, cv, rfl⟩ := Kd.R_slice hv.out
       have HBw : Hid (Below w.heap.size w w1) := (((Below.refl _ _).alloc (Nat.le_refl _) _).alloc (by simp) _).trans (hb.out.mono (by simp only [World.size_alloc]; omega))
       have hv2 : Hid (Kd.R k42 42 w1 (w.heap.size + 2) (fun _ => True) (.slice Av x.f1.f3.length cv) x.f1.f3) := by
         have := hv.out
         simp only [World.size_alloc] at this
         exact this
       have B1 : Hid (w1.heap[w.heap.size]? = some (.cells #[.string x.f0, .int .i64 x.f1.f0, .int .i64 x.f1.f1, .string x.f1.f2, .slice A4 x.f1.f3.length c4, .slice A5 x.f2.length c5] 45 (0, 0))) := blk_below (blk_alloc (blk_new w _) _) hb.out
       have B2 : Hid (w1.heap[w.heap.size + 1]? = some (.cells #[.string ⟨#[]⟩, .int .i64 0, .int .i64 0, .string ⟨#[]⟩, .slice none 0 0, .slice none 0 0] 45 (0, 0))) := blk_below (by
         have := blk_new (w.alloc (.cells #[.string x.f0, .int .i64 x.f1.f0, .int .i64 x.f1.f1, .string x.f1.f2, .slice A4 x.f1.f3.length c4, .slice A5 x.f2.length c5] 45)) (.cells #[.string ⟨#[]⟩, .int .i64 0, .int .i64 0, .string ⟨#[]⟩, .slice none 0 0, .slice none 0 0] 45)
         simp only [World.size_alloc] at this
         exact this) hb.out
       have q0 : w1.cell? ⟨w.heap.size, 0, none⟩ = some (.string x.f0) := blk_at B1.out 0 rfl
       have f0 : w1.frozen? ⟨w.heap.size, 0, none⟩ = false := blk_frozen B1.out 0
       have q1 : w1.cell? ⟨w.heap.size, 1, none⟩ = some (.int .i64 x.f1.f0) := blk_at B1.out 1 rfl
       have f1 : w1.frozen? ⟨w.heap.size, 1, none⟩ = false := blk_frozen B1.out 1
       have q2 : w1.cell? ⟨w.heap.size, 2, none⟩ = some (.int .i64 x.f1.f1) := blk_at B1.out 2 rfl
       have f2 : w1.frozen? ⟨w.heap.size, 2, none⟩ = false := blk_frozen B1.out 2
       have q3 : w1.cell? ⟨w.heap.size, 3, none⟩ = some (.string x.f1.f2) := blk_at B1.out 3 rfl
       have f3 : w1.frozen? ⟨w.heap.size, 3, none⟩ = false := blk_frozen B1.out 3
       have q4 : w1.cell? ⟨w.heap.size, 4, none⟩ = some (.slice A4 x.f1.f3.length c4) := blk_at B1.out 4 rfl
       have f4 : w1.frozen? ⟨w.heap.size, 4, none⟩ = false := blk_frozen B1.out 4
       have q5 : w1.cell? ⟨w.heap.size, 5, none⟩ = some (.slice A5 x.f2.length c5) := blk_at B1.out 5 rfl
       have f5 : w1.frozen? ⟨w.heap.size, 5, none⟩ = false := blk_frozen B1.out 5
       have d0 : w1.cell? ⟨(w.heap.size + 1), 0, none⟩ = some (.string ⟨#[]⟩) := blk_at B2.out 0 rfl
       have g0 : w1.frozen? ⟨(w.heap.size + 1), 0, none⟩ = false := blk_frozen B2.out 0
       have d1 : w1.cell? ⟨(w.heap.size + 1), 1, none⟩ = some (.int .i64 0) := blk_at B2.out 1 rfl
       have g1 : w1.frozen? ⟨(w.heap.size + 1), 1, none⟩ = false := blk_frozen B2.out 1
       have d2 : w1.cell? ⟨(w.heap.size + 1), 2, none⟩ = some (.int .i64 0) := blk_at B2.out 2 rfl
       have g2 : w1.frozen? ⟨(w.heap.size + 1), 2, none⟩ = false := blk_frozen B2.out 2
       have d3 : w1.cell? ⟨(w.heap.size + 1), 3, none⟩ = some (.string ⟨#[]⟩) := blk_at B2.out 3 rfl
       have g3 : w1.frozen? ⟨(w.heap.size + 1), 3, none⟩ = false := blk_frozen B2.out 3
       have d4 : w1.cell? ⟨(w.heap.size + 1), 4, none⟩ = some (.slice none 0 0) := blk_at B2.out 4 rfl
       have g4 : w1.frozen? ⟨(w.heap.size + 1), 4, none⟩ = false := blk_frozen B2.out 4
       have d5 : w1.cell? ⟨(w.heap.size + 1), 5, none⟩ = some (.slice none 0 0) := blk_at B2.out 5 rfl
       have g5 : w1.frozen? ⟨(w.heap.size + 1), 5, none⟩ = false := blk_frozen B2.out 5
)
    | (at_builtin; refine Kd.R_append_row (Value.int .i64) 0 (h1 := fun _ => rfl) (w0 := ((((w1.setCell ⟨w.heap.size, 1, none⟩ (.int .i64 x.f1.f0)).setCell ⟨w.heap.size, 2, none⟩ (.int .i64 x.f1.f1)).setCell ⟨w.heap.size, 3, none⟩ (.string x.f1.f2)).setCell ⟨w.heap.size, 4, none⟩ (.slice Av x.f1.f3.length cv))) (w.heap.size + 2) rfl (.const (.slice none 0 0)) (.tmp 8) 43 3 (.int .i64 0) 8 rfl Try.underlying43 info3 rfl (by decide) (.slice none 0 0) [] x.f2 A5 x.f2.length c5 (fun _ => True) rfl rfl (fun _ _ => trivial) (Kd.R_nil _ _ _ _ _) ?hR ?hB ?hS ?hl ?_
       case hR => exact Kd.C_below HC5.out ((((HBw.out.setCell (Nat.le_refl _) _).setCell (Nat.le_refl _) _).setCell (Nat.le_refl _) _).setCell (Nat.le_refl _) _)
       case hB => exact Below.refl _ _
       case hS => simp only [World.size_setCell]; exact blk_lt B2.out
       case hl => have := hp5.out; simp only [List.length_nil]; omega
       intro v1 w2 HO2 HB2 hg hat
       rw [List.nil_append] at HO2
       obtain ⟨Ao, co, rfl⟩ := Kd.R_slice HO2
       have HO2' := Lib.hid HO2
       have D1 : Hid (w2.heap[w.heap.size]? = some (.cells #[.string x.f0, .int .i64 x.f1.f0, .int .i64 x.f1.f1, .string x.f1.f2, .slice Av x.f1.f3.length cv, .slice A5 x.f2.length c5] 45 (0, 0))) := (HB2.block _ (by omega)).trans (blk_put (blk_put (blk_put (blk_put B1.out 1 _ rfl) 2 _ rfl) 3 _ rfl) 4 _ rfl)
       have D2 : Hid (w2.heap[w.heap.size + 1]? = some (.cells #[.string ⟨#[]⟩, .int .i64 0, .int .i64 0, .string ⟨#[]⟩, .slice none 0 0, .slice none 0 0] 45 (0, 0))) := (HB2.block _ (by omega)).trans (blk_far (blk_far (blk_far (blk_far B2.out (by simp) _) (by simp) _) (by simp) _) (by simp) _)
       have HD : Hid (Below w.heap.size w w2) := ((((HBw.out.setCell (Nat.le_refl _) _).setCell (Nat.le_refl _) _).setCell (Nat.le_refl _) _).setCell (Nat.le_refl _) _).trans (HB2.mono (by omega))
       have HV : Hid (Kd.R k42 42 w2 (w.heap.size + 2) (fun k => some k ≠ (Value.slice none 0 0).ownBlock) (.slice Av x.f1.f3.length cv) x.f1.f3) := Kd.R_grown (Kd.R_mono (R_low (R_low (R_low (R_low hv2.out (by simp) _) (by simp) _) (by simp) _) (by simp) _) (fun k _ => by simp [Value.ownBlock])) hg (fun k hk => hk)
       have u0 : w2.cell? ⟨w.heap.size, 0, none⟩ = some (.string x.f0) := blk_at D1.out 0 rfl
       have k0 : w2.frozen? ⟨w.heap.size, 0, none⟩ = false := blk_frozen D1.out 0
       have u1 : w2.cell? ⟨w.heap.size, 1, none⟩ = some (.int .i64 x.f1.f0) := blk_at D1.out 1 rfl
       have k1 : w2.frozen? ⟨w.heap.size, 1, none⟩ = false := blk_frozen D1.out 1
       have u2 : w2.cell? ⟨w.heap.size, 2, none⟩ = some (.int .i64 x.f1.f1) := blk_at D1.out 2 rfl
       have k2 : w2.frozen? ⟨w.heap.size, 2, none⟩ = false := blk_frozen D1.out 2
       have u3 : w2.cell? ⟨w.heap.size, 3, none⟩ = some (.string x.f1.f2) := blk_at D1.out 3 rfl
       have k3 : w2.frozen? ⟨w.heap.size, 3, none⟩ = false := blk_frozen D1.out 3
       have u4 : w2.cell? ⟨w.heap.size, 4, none⟩ = some (.slice Av x.f1.f3.length cv) := blk_at D1.out 4 rfl
       have k4 : w2.frozen? ⟨w.heap.size, 4, none⟩ = false := blk_frozen D1.out 4
       have u5 : w2.cell? ⟨w.heap.size, 5, none⟩ = some (.slice A5 x.f2.length c5) := blk_at D1.out 5 rfl
       have k5 : w2.frozen? ⟨w.heap.size, 5, none⟩ = false := blk_frozen D1.out 5
       have z0 : w2.cell? ⟨(w.heap.size + 1), 0, none⟩ = some (.string ⟨#[]⟩) := blk_at D2.out 0 rfl
       have h0 : w2.frozen? ⟨(w.heap.size + 1), 0, none⟩ = false := blk_frozen D2.out 0
       have z1 : w2.cell? ⟨(w.heap.size + 1), 1, none⟩ = some (.int .i64 0) := blk_at D2.out 1 rfl
       have h1 : w2.frozen? ⟨(w.heap.size + 1), 1, none⟩ = false := blk_frozen D2.out 1
       have z2 : w2.cell? ⟨(w.heap.size + 1), 2, none⟩ = some (.int .i64 0) := blk_at D2.out 2 rfl
       have h2 : w2.frozen? ⟨(w.heap.size + 1), 2, none⟩ = false := blk_frozen D2.out 2
       have z3 : w2.cell? ⟨(w.heap.size + 1), 3, none⟩ = some (.string ⟨#[]⟩) := blk_at D2.out 3 rfl
       have h3 : w2.frozen? ⟨(w.heap.size + 1), 3, none⟩ = false := blk_frozen D2.out 3
       have z4 : w2.cell? ⟨(w.heap.size + 1), 4, none⟩ = some (.slice none 0 0) := blk_at D2.out 4 rfl
       have h4 : w2.frozen? ⟨(w.heap.size + 1), 4, none⟩ = false := blk_frozen D2.out 4
       have z5 : w2.cell? ⟨(w.heap.size + 1), 5, none⟩ = some (.slice none 0 0) := blk_at D2.out 5 rfl
       have h5 : w2.frozen? ⟨(w.heap.size + 1), 5, none⟩ = false := blk_frozen D2.out 5
       clear HO2 HB2 hg hat))
  refine bodyPost_ret (results_cell_row rfl _ _ (w.heap.size + 1) 45 #[.string x.f0, .int .i64 x.f1.f0, .int .i64 x.f1.f1, .string x.f1.f2, .slice Av x.f1.f3.length cv, .slice Ao x.f2.length co] (0, 0) _ rfl ?_ Try.underlying45 rfl (by kernel_rfl)) rfl ⟨_, _, rfl, ?_, ?_, ?_⟩
  · exact blk_put (blk_put (blk_put (blk_put (blk_put (blk_put (blk_far D2.out (by simp) _) 0 _ rfl) 1 _ rfl) 2 _ rfl) 3 _ rfl) 4 _ rfl) 5 _ rfl
  · refine Lib.hid ?_
    refine Kd.R_lower (base := w.heap.size + 2) ?_ (Nat.le_add_right _ _)
    iterate 7 refine R_low ?_ (by simp only []; omega) _
    exact Kd.R_mono HV.out (fun _ _ => trivial)
  · refine Lib.hid ?_
    refine Kd.R_lower (base := w.heap.size + 2) ?_ (Nat.le_add_right _ _)
    iterate 7 refine R_low ?_ (by simp only []; omega) _
    exact HO2'.out
  · refine Lib.hid ?_
    iterate 7 refine Below.setCell ?_ (by simp) _
    exact HD.out

set_option maxRecDepth 100000 in
set_option maxHeartbeats 4000000 in
theorem ownRecords58 (l : List S45) (A : Option Addr) (c : Nat) (w : World) (hC : Kd.C k45 w A l.length l) (hc : l.length ≤ c) (hp : partsRs l ≤ 100000) :
    Calls Try.prog 58 #[.slice A l.length c] w fun e w' => ∃ v, e = .returned v ∧ Hid (Kd.R k45 45 w' w.heap.size (fun _ => True) v l) ∧ Hid (Below w.heap.size w w') := by
  obtain ⟨n, hn⟩ : ∃ n, n = l.length := ⟨_, rfl⟩
  have Hn := Lib.hid hn
  have HC := Lib.hid hC
  have Hp := Lib.hid hp
  clear hC hc hp
  rw [← hn]
  clear hn
  go_enter Try.func58, Try.ntmps58
  go_wp2
  go_loopw [3, 8] (fun v3 v8 wr => ∃ k : Nat, k ≤ n ∧ v8 = .int .i64 k ∧ Hid (Kd.R k45 45 wr w.heap.size (fun _ => True) v3 (l.take k)) ∧ Hid (Below w.heap.size w wr)) (fun _ v8 _ => n - (intOf v8).toNat)
  case atStart => exact ⟨0, Nat.zero_le _, rfl, Kd.R_nil _ _ _ _ _, Below.refl _ _⟩
  case round =>
    obtain ⟨k, hk, rfl, HO, HB⟩ := hrel
    have hkl : (l.take k).length = k := by rw [List.length_take, ← Hn.out]; omega
    obtain ⟨Ao, co, hv⟩ := Kd.R_slice HO.out
    rw [hkl] at hv
    subst hv
    clear hkl
    by_cases hlt : k < n
    · obtain ⟨ad, A4, c4, A5, c5, rfl, e0, e1, e2, e3, e4, e5, hl4, hC4, hl5, hC5⟩ := at_T45 HC.out (k : Int) (by omega) (by rw [← Hn.out]; omega)
      have hmem : rd_T45 l (k : Int) ∈ l := getD_mem _ _ _ (by rw [Int.toNat_natCast, ← Hn.out]; exact hlt)
      have htk : l.take (k + 1) = l.take k ++ [rd_T45 l (k : Int)] := take_getD _ _ _ (by rw [← Hn.out]; exact hlt)
      generalize rd_T45 l (k : Int) = y at *
      have Htk := Lib.hid htk
      rw [Int.toNat_natCast] at e0 e1 e2 e3 e4 e5
      replace e0 := (HB.out.cell (World.block_lt_of_cell? w _ e0)).trans e0
      replace e1 := (HB.out.cell (World.block_lt_of_cell? w _ e1)).trans e1
      replace e2 := (HB.out.cell (World.block_lt_of_cell? w _ e2)).trans e2
      replace e3 := (HB.out.cell (World.block_lt_of_cell? w _ e3)).trans e3
      replace e4 := (HB.out.cell (World.block_lt_of_cell? w _ e4)).trans e4
      replace e5 := (HB.out.cell (World.block_lt_of_cell? w _ e5)).trans e5
      have HY : Hid (∀ W : World, PLift (Below wr.heap.size wr W) → Calls Try.prog 40 #[.agg #[.string y.f0, .int .i64 y.f1.f0, .int .i64 y.f1.f1, .string y.f1.f2, .slice A4 y.f1.f3.length c4, .slice A5 y.f2.length c5]] W fun e w' => ∃ v4 v5, e = .returned (.agg #[.string y.f0, .int .i64 y.f1.f0, .int .i64 y.f1.f1, .string y.f1.f2, v4, v5]) ∧ Hid (Kd.R k42 42 w' W.heap.size (fun _ => True) v4 y.f1.f3) ∧ Hid (Kd.R (Kd.int .i64) 3 w' W.heap.size (fun _ => True) v5 y.f2) ∧ Hid (Below W.heap.size W w')) := fun W hW => ownRecord40 y A4 c4 A5 c5 W (Kd.C_below (Kd.C_below hC4 HB.out) hW.down) hl4 (Kd.C_below (Kd.C_below hC5 HB.out) hW.down) hl5 (Nat.le_trans (partsRs_mem hmem) Hp.out)
      clear hC4 hl4 hC5 hl5
      have hn64 : n ≤ 100000 := by
        have h1 := partsRs_len l
        have h2 := Hp.out
        have h3 := Hn.out
        omega
      have Hsz := Lib.hid (show w.heap.size ≤ wr.heap.size from HB.out.size)
      clear hmem htk
      go_wp2_with (first
        | (go_at_call 40; refine (HY.out _ ⟨(Below.refl _ _).alloc (Nat.le_refl _) _⟩).mono ?_; rintro e w1 ⟨v4, v5, rfl, hv4, hv5, hb⟩)
        | (at_builtin; refine Kd.R_append k45 (w0 := w) w.heap.size rfl (.tmp 12) (.tmp 15) 35 45 (.agg #[.string ⟨#[]⟩, .int .i64 0, .int .i64 0, .string ⟨#[]⟩, .slice none 0 0, .slice none 0 0]) 96 rfl Try.underlying35 info45 rfl (by decide) (by decide) (.slice Ao k co) (l.take k) y _ (fun _ => True) (fun k_ => True ∧ some k_ ≠ (Value.slice Ao k co).ownBlock) rfl rfl ?hp (fun _ hk => hk) (fun _ _ => trivial) ?hO ?hB ?hS ?hl ?_
           case hp => exact k45_mkM _ _ _ y (Kd.R_lower (Kd.R_new' hv4.out (fun i hi => by have := Kd.R_lt HO.out i hi; simp only [World.size_alloc]; omega)) (by simp only [World.size_alloc]; have := Hsz.out; omega)) (Kd.R_lower (Kd.R_new' hv5.out (fun i hi => by have := Kd.R_lt HO.out i hi; simp only [World.size_alloc]; omega)) (by simp only [World.size_alloc]; have := Hsz.out; omega))
           case hO => exact Kd.R_below (Kd.R_alloc HO.out _) hb.out
           case hB => exact (HB.out.alloc HB.out.size _).trans (hb.out.mono (by simp only [World.size_alloc]; have := Hsz.out; omega))
           case hS => have h1 := hb.out.size; have := Hsz.out; simp only [World.size_alloc] at h1; omega
           case hl => rw [List.length_take, ← Hn.out]; omega
           intro v1 w2 HO2 HB2 hg hat
           have HO2' := Lib.hid HO2
           have HB2' := Lib.hid HB2
           clear HO2 HB2 hg hat))
      go_roundw
      case rel =>
        refine ⟨k + 1, by omega, by go_num, ?_, ?_⟩
        · rw [Htk.out]; exact HO2'.out
        · exact HB2'.out
      case measure => simp [intOf]; omega
    · go_wp2
      obtain rfl : k = n := by omega
      rw [List.take_of_length_le (by rw [Hn.out]; exact Nat.le_refl _)] at HO
      go_ret
      exact ⟨_, rfl, HO, HB⟩

set_option maxRecDepth 100000 in
set_option maxHeartbeats 4000000 in
theorem ownState68 (x : S34) (A : Option Addr) (c : Nat) (w : World) (hC : Kd.C k104 w A x.f1.length x.f1) (hc : x.f1.length ≤ c) (hp : partsC x.f1 ≤ 100000) :
    Calls Try.prog 68 #[.agg #[.int .i64 x.f0, .slice A x.f1.length c]] w fun e w' => ∃ v, e = .returned (.agg #[.int .i64 x.f0, v]) ∧ Hid (Kd.R k104 104 w' w.heap.size (fun _ => True) v x.f1) ∧ Hid (Below w.heap.size w w') := by
  obtain ⟨n, hn⟩ : ∃ n, n = x.f1.length := ⟨_, rfl⟩
  have HC := Lib.hid hC
  have Hp := Lib.hid hp
  have Hn := Lib.hid hn
  clear hC hc hp
  rw [← hn]
  clear hn
  go_enter Try.func68, Try.ntmps68
  go_wp2
  go_loopw [3, 9] (fun v3 v9 wr => ∃ k : Nat, k ≤ n ∧ v9 = .int .i64 k ∧ Hid (Kd.R k104 104 wr (w.heap.size + 2) (fun _ => True) v3 (x.f1.take k)) ∧ Hid (Below w.heap.size w wr) ∧ Hid (wr.heap[w.heap.size]? = some (.cells #[.int .i64 x.f0, .slice A n c] 34 (0, 0))) ∧ Hid (wr.heap[w.heap.size + 1]? = some (.cells #[.int .i64 0, .slice none 0 0] 34 (0, 0)))) (fun _ v9 _ => n - (intOf v9).toNat)
  case atStart =>
    refine ⟨0, Nat.zero_le _, rfl, Kd.R_nil _ _ _ _ _, ?_, ?_, ?_⟩
    · exact ((Below.refl _ _).alloc (Nat.le_refl _) _).alloc (by simp) _
    · exact blk_alloc (blk_new w _) _
    · have := blk_new (w.alloc (.cells #[.int .i64 x.f0, .slice A n c] 34)) (.cells #[.int .i64 0, .slice none 0 0] 34)
      simp only [World.size_alloc] at this
      exact this
  case round =>
    obtain ⟨k, hk, rfl, HO, HB, B1, B2⟩ := hrel
    have hkl : (x.f1.take k).length = k := by rw [List.length_take, ← Hn.out]; omega
    obtain ⟨Ao, co, hv⟩ := Kd.R_slice HO.out
    rw [hkl] at hv
    subst hv
    clear hkl
    have q0 : wr.cell? ⟨w.heap.size, 0, none⟩ = some (.int .i64 x.f0) := blk_at B1.out 0 rfl
    have f0 : wr.frozen? ⟨w.heap.size, 0, none⟩ = false := blk_frozen B1.out 0
    have q1 : wr.cell? ⟨w.heap.size, 1, none⟩ = some (.slice A n c) := blk_at B1.out 1 rfl
    have f1 : wr.frozen? ⟨w.heap.size, 1, none⟩ = false := blk_frozen B1.out 1
    have d0 : wr.cell? ⟨(w.heap.size + 1), 0, none⟩ = some (.int .i64 0) := blk_at B2.out 0 rfl
    have g0 : wr.frozen? ⟨(w.heap.size + 1), 0, none⟩ = false := blk_frozen B2.out 0
    have d1 : wr.cell? ⟨(w.heap.size + 1), 1, none⟩ = some (.slice none 0 0) := blk_at B2.out 1 rfl
    have g1 : wr.frozen? ⟨(w.heap.size + 1), 1, none⟩ = false := blk_frozen B2.out 1
    by_cases hlt : k < n
    · obtain ⟨ad, A1, c1, rfl, e0, e1, hl1, hC1⟩ := at_T104 HC.out (k : Int) (by omega) (by rw [← Hn.out]; omega)
      have hmem : rd_T104 x.f1 (k : Int) ∈ x.f1 := getD_mem _ _ _ (by rw [Int.toNat_natCast, ← Hn.out]; exact hlt)
      have htk : x.f1.take (k + 1) = x.f1.take k ++ [rd_T104 x.f1 (k : Int)] := take_getD _ _ _ (by rw [← Hn.out]; exact hlt)
      generalize rd_T104 x.f1 (k : Int) = y at *
      have Htk := Lib.hid htk
      rw [Int.toNat_natCast] at e0 e1
      have hy0 := (HB.out.cell (World.block_lt_of_cell? w _ e0)).trans e0
      have hy1 := (HB.out.cell (World.block_lt_of_cell? w _ e1)).trans e1
      have hn64 : n ≤ 100000 := by
        have h1 := partsC_len x.f1
        have h2 := Hp.out
        have h3 := Hn.out
        omega
      have Hsz := Lib.hid (show w.heap.size + 2 ≤ wr.heap.size from blk_lt B2.out)
      have HY : Hid (∀ W : World, Below wr.heap.size wr W → Calls Try.prog 67 #[.slice A1 y.f1.length c1] W fun e w' => ∃ v, e = .returned v ∧ Hid (Kd.R k42 42 w' W.heap.size (fun _ => True) v y.f1) ∧ Hid (Below W.heap.size W w')) := fun W hW => ownValues67 y.f1 A1 c1 W (Kd.C_below (Kd.C_below hC1 HB.out) hW) hl1 (Nat.le_trans (partsC_mem hmem) Hp.out)
      clear hmem htk hC1 hl1 e0 e1
      go_wp2
      refine start_ (n := 10) (S := (fun w' => w'.cell? ⟨wr.heap.size, 0, none⟩ = some (.string y.f0) ∧ w'.cell? ⟨wr.heap.size, 1, none⟩ = some (.slice A1 y.f1.length c1))) (ds := [8]) #[false, false, false, false, false, false, false, false, false, false] (by kernel_rfl) rfl rfl ⟨blk_at (blk_new wr _) 0 rfl, blk_at (blk_new wr _) 1 rfl⟩ (fun hHeld => ?_)
      have hBo : Hid (Below wr.heap.size wr (wr.alloc (.cells #[.string y.f0, .slice A1 y.f1.length c1] 104)).drew) := ((Below.refl _ _).alloc (Nat.le_refl _) _).drew
      have HszW : Hid (w.heap.size + 2 ≤ (wr.alloc (.cells #[.string y.f0, .slice A1 y.f1.length c1] 104)).drew.heap.size ∧ wr.heap.size < (wr.alloc (.cells #[.string y.f0, .slice A1 y.f1.length c1] 104)).drew.heap.size) := by have := Hsz.out; constructor <;> simp <;> omega
      generalize (wr.alloc (.cells #[.string y.f0, .slice A1 y.f1.length c1] 104)).drew = W at hHeld hBo HszW ⊢
      refine pure_ (i := 0) (N := some 13) (v := ?_) (a' := ?_) #[true, false, false, false, false, false, false, false, false, false] rfl rfl (by kernel_rfl) (fun _ _ _ h => h) (Or.inl ⟨by rfl, ?_⟩) ?_ ?_
      rotate_left
      · intro w'
        go_simp
        with_reducible rfl
      rotate_left
      · simp only [Act.put, List.setIfInBounds_toArray, List.set_cons_zero, List.set_cons_succ]
        rfl
      refine pure_ (i := 1) (N := some 14) (v := ?_) (a' := ?_) #[true, true, false, false, false, false, false, false, false, false] rfl rfl (by kernel_rfl) (fun _ _ _ h => h) (Or.inl ⟨by rfl, ?_⟩) ?_ ?_
      rotate_left
      · intro w'
        go_simp
        with_reducible rfl
      rotate_left
      · simp only [Act.put, List.setIfInBounds_toArray, List.set_cons_zero, List.set_cons_succ]
        rfl
      refine take_ (i := 2) (N := some 15) (v := ?_) (a' := ?_) #[true, true, true, false, false, false, false, false, false, false] rfl rfl (by kernel_rfl) (fun _ _ _ h => h) (Or.inl ⟨by rfl, ?_⟩) hHeld ?_ ?_
      rotate_left
      · rintro w' ⟨s0, s1⟩
        go_simp
        with_reducible rfl
      rotate_left
      · simp only [Act.put, List.setIfInBounds_toArray, List.set_cons_zero, List.set_cons_succ]
        rfl
      refine pure_ (i := 3) (N := some 16) (v := ?_) (a' := ?_) #[true, true, true, true, false, false, false, false, false, false] rfl rfl (by kernel_rfl) (fun _ _ _ h => h) (Or.inl ⟨by rfl, ?_⟩) ?_ ?_
      rotate_left
      · intro w'
        go_simp
        with_reducible rfl
      rotate_left
      · simp only [Act.put, List.setIfInBounds_toArray, List.set_cons_zero, List.set_cons_succ]
        rfl
      refine take_ (i := 4) (N := some 17) (v := ?_) (a' := ?_) #[true, true, true, true, true, false, false, false, false, false] rfl rfl (by kernel_rfl) (fun _ _ _ h => h) (Or.inl ⟨by rfl, ?_⟩) hHeld ?_ ?_
      rotate_left
      · rintro w' ⟨s0, s1⟩
        go_simp
        with_reducible rfl
      rotate_left
      · simp only [Act.put, List.setIfInBounds_toArray, List.set_cons_zero, List.set_cons_succ]
        rfl
      refine one_ (i := 5) (N := some 18) #[true, true, true, true, true, true, false, false, false, false] rfl rfl (by kernel_rfl) (by decide) (fun K hK => ?_)
      refine goes_ Try.func67 (by kernel_rfl) rfl #[.slice A1 y.f1.length c1] (by rfl) rfl rfl (by simp only [List.map_toArray, List.map_cons, List.map_nil]; rfl) ?_
      refine (HY.out W hBo.out).mono ?_
      rintro e w1 ⟨v1, rfl, hv1, hb1⟩
      refine ⟨_, rfl, ?_⟩
      obtain ⟨Av, cv, rfl⟩ := Kd.R_slice hv1.out
      refine hK.out _ _ ⟨pw_cell_below hb1.out hHeld.1, pw_cell_below hb1.out hHeld.2⟩ (fun hHeld => ?_)
      clear hK K
      refine norm_ (a' := ?_) ?_ ?_
      rotate_left
      · show Act.put _ (some 18) _ = _
        simp only [Act.put, List.setIfInBounds_toArray, List.set_cons_zero, List.set_cons_succ]
        rfl
      refine pure_ (i := 6) (N := some 19) (v := ?_) (a' := ?_) #[true, true, true, true, true, true, true, false, false, false] rfl rfl (by kernel_rfl) (fun _ _ _ h => h) (Or.inl ⟨by rfl, ?_⟩) ?_ ?_
      rotate_left
      · intro w'
        go_simp
        with_reducible rfl
      rotate_left
      · simp only [Act.put, List.setIfInBounds_toArray, List.set_cons_zero, List.set_cons_succ]
        rfl
      refine one_ (i := 7) (N := some 20) #[true, true, true, true, true, true, true, true, false, false] rfl rfl (by kernel_rfl) (by decide) (fun K hK => ?_)
      refine value_ (w1 := ?_) (v := ?_) (by rfl) rfl ?_ ?_
      rotate_left 2
      · go_simp
        constructor
        · rfl
        · rfl
      refine hK.out _ _ ⟨pw_cell_below ((Below.refl _ _).alloc (Nat.le_refl _) _) hHeld.1, pw_cell_below ((Below.refl _ _).alloc (Nat.le_refl _) _) hHeld.2⟩ (fun hHeld => ?_)
      clear hK K
      refine norm_ (a' := ?_) ?_ ?_
      rotate_left
      · show Act.put _ (some 20) _ = _
        simp only [Act.put, List.setIfInBounds_toArray, List.set_cons_zero, List.set_cons_succ]
        rfl
      refine last_ (i := 8) (N := some 21) #[true, true, true, true, true, true, true, true, true, false] rfl rfl (by kernel_rfl) (by decide) (fun K hK => ?_)
      refine Kd.R_append_step k104 (w0 := wr) (w.heap.size + 2) (by rfl) (.tmp 13) (.tmp 20) 32 104 (.agg #[.string ⟨#[]⟩, .slice none 0 0]) 40 rfl Try.underlying32 info104 rfl (by decide) (by decide) (.slice Ao k co) (x.f1.take k) y _ (fun _ => True) (fun k_ => True ∧ some k_ ≠ (Value.slice Ao k co).ownBlock) rfl rfl ?hp (fun _ hk => hk) (fun _ _ => trivial) ?hO ?hB ?hS ?hl ?_
      case hp => exact k104_mkM _ _ _ y (Kd.R_lower (Kd.R_new' hv1.out (fun i hi => by have := Kd.R_lt HO.out i hi; have := HszW.out; omega)) (by have := HszW.out; omega))
      case hO => exact Kd.R_below (Kd.R_below HO.out hBo.out) hb1.out
      case hB => exact (hBo.out.mono Hsz.out).trans (hb1.out.mono (by have := HszW.out; omega))
      case hS => exact Nat.le_trans HszW.out.1 hb1.out.size
      case hl => rw [List.length_take, ← Hn.out]; omega
      intro v2 w2 HO2 HB2 hg2 hat2
      have HO2' := Lib.hid HO2
      have HB2' := Lib.hid HB2
      clear HO2 HB2 hg2 hat2
      refine hK.out _ _ ?_
      clear hK K
      refine norm_ (a' := ?_) ?_ ?_
      rotate_left
      · show Act.put _ (some 21) _ = _
        simp only [Act.put, List.setIfInBounds_toArray, List.set_cons_zero, List.set_cons_succ]
        rfl
      refine pure_ (i := 9) (N := some 3) (v := ?_) (a' := ?_) #[true, true, true, true, true, true, true, true, true, true] rfl rfl (by kernel_rfl) (fun _ _ _ h => h) (Or.inl ⟨by rfl, ?_⟩) ?_ ?_
      rotate_left
      · intro w'
        go_simp
        with_reducible rfl
      rotate_left
      · simp only [Act.put, List.setIfInBounds_toArray, List.set_cons_zero, List.set_cons_succ]
        rfl
      refine done_ (by kernel_rfl) ?_
      go_wp2
      go_roundw
      case rel =>
        refine ⟨k + 1, by omega, by go_num, ?_, ?_, ?_, ?_⟩
        · rw [Htk.out]; exact HO2'.out
        · exact HB.out.trans (HB2'.out.mono (by omega))
        · exact (HB2'.out.block _ (by omega)).trans B1.out
        · exact (HB2'.out.block _ (by omega)).trans B2.out
      case measure => simp [intOf]; omega
    · go_wp2
      obtain rfl : k = n := by omega
      rw [List.take_of_length_le (by rw [Hn.out]; exact Nat.le_refl _)] at HO
      refine bodyPost_ret (results_cell_row rfl _ _ (w.heap.size + 1) 34 #[.int .i64 x.f0, .slice Ao k co] (0, 0) _ rfl ?_ Try.underlying34 rfl (by kernel_rfl)) rfl ⟨_, rfl, ?_, ?_⟩
      · exact blk_put (blk_put (blk_far B2.out (by simp) _) 0 _ rfl) 1 _ rfl
      · refine Lib.hid ?_
        refine Kd.R_lower (base := w.heap.size + 2) ?_ (Nat.le_add_right _ _)
        iterate 3 refine R_low ?_ (by simp only []; omega) _
        exact HO.out
      · refine Lib.hid ?_
        iterate 3 refine Below.setCell ?_ (by simp) _
        exact HB.out

end Go.Proofs.Ytomfknblehkocaa.C
