/- copyRecord, copyRecords: a record's copy is the same record in new memory. -/
import Derived.Test.YtomfknblehkocaaCV
namespace Go.Proofs.Ytomfknblehkocaa.C
open Go.RowKit Go.Proofs.YtomfknblehkocaaW.PrintWords Go.Proofs.YtomfknblehkocaaW.PrintLast
set_option linter.unusedVariables false

set_option maxRecDepth 100000 in
set_option maxHeartbeats 4000000 in
theorem copyRecord19 (x : S45) (A4 : Option Addr) (c4 : Nat) (A5 : Option Addr) (c5 : Nat) (w : World) (hC4 : Kd.C k42 w A4 x.f1.f3.length x.f1.f3) (hc4 : x.f1.f3.length ≤ c4) (hC5 : Kd.C (Kd.int .i64) w A5 x.f2.length x.f2) (hc5 : x.f2.length ≤ c5) (hp : partsR x ≤ 100000) :
    Calls Try.prog 19 #[.agg #[.string x.f0, .int .i64 x.f1.f0, .int .i64 x.f1.f1, .string x.f1.f2, .slice A4 x.f1.f3.length c4, .slice A5 x.f2.length c5]] w fun e w' => ∃ v4 v5, e = .returned (.agg #[.string x.f0, .int .i64 x.f1.f0, .int .i64 x.f1.f1, .string x.f1.f2, v4, v5]) ∧ Hid (Kd.R k42 42 w' w.heap.size (fun _ => True) v4 x.f1.f3) ∧ Hid (Kd.R (Kd.int .i64) 3 w' w.heap.size (fun _ => True) v5 x.f2) ∧ Hid (Below w.heap.size w w') := by
  have HC4 := Lib.hid hC4
  have Hc4 := Lib.hid hc4
  have HC5 := Lib.hid hC5
  have Hc5 := Lib.hid hc5
  have hp4 : Hid (partsV x.f1.f3 ≤ 100000) := by unfold partsR at hp; show _ ≤ _; omega
  have hp5 : Hid (x.f2.length ≤ 100000) := by unfold partsR at hp; show _ ≤ _; omega
  clear hC4 hc4 hC5 hc5 hp
  go_enter Try.func19, Try.ntmps19
  go_wp2_with (first
    | (at_builtin; refine Kd.R_append_row (Value.int .i64) 0 (h1 := fun _ => rfl) (w0 := (w.alloc (.cells #[.string x.f0, .int .i64 x.f1.f0, .int .i64 x.f1.f1, .string x.f1.f2, .slice A4 x.f1.f3.length c4, .slice A5 x.f2.length c5] 45)).alloc (.cells #[.string ⟨#[]⟩, .int .i64 0, .int .i64 0, .string ⟨#[]⟩, .slice none 0 0, .slice none 0 0] 45)) (w.heap.size + 2) rfl (.tmp 4) (.tmp 6) 43 3 (.int .i64 0) 8 rfl Try.underlying43 info3 rfl (by decide) (.slice none 0 0) [] x.f2 A5 x.f2.length c5 (fun _ => True) rfl rfl (fun _ _ => trivial) (Kd.R_nil _ _ _ _ _) ?hR (Below.refl _ _) (by simp) ?hl ?_
       case hR => exact Kd.C_alloc (Kd.C_alloc HC5.out _) _
       case hl => have := hp5.out; simp only [List.length_nil]; omega
       intro v1 w2 HO2 HB2 hg hat
       rw [List.nil_append] at HO2
       obtain ⟨Ao, co, rfl⟩ := Kd.R_slice HO2
       have HO2' := Lib.hid HO2
       have B1 : Hid (w2.heap[w.heap.size]? = some (.cells #[.string x.f0, .int .i64 x.f1.f0, .int .i64 x.f1.f1, .string x.f1.f2, .slice A4 x.f1.f3.length c4, .slice A5 x.f2.length c5] 45 (0, 0))) := (HB2.block _ (by omega)).trans (blk_alloc (blk_new w _) _)
       have B2 : Hid (w2.heap[w.heap.size + 1]? = some (.cells #[.string ⟨#[]⟩, .int .i64 0, .int .i64 0, .string ⟨#[]⟩, .slice none 0 0, .slice none 0 0] 45 (0, 0))) := (HB2.block _ (by omega)).trans (by
         have := blk_new (w.alloc (.cells #[.string x.f0, .int .i64 x.f1.f0, .int .i64 x.f1.f1, .string x.f1.f2, .slice A4 x.f1.f3.length c4, .slice A5 x.f2.length c5] 45)) (.cells #[.string ⟨#[]⟩, .int .i64 0, .int .i64 0, .string ⟨#[]⟩, .slice none 0 0, .slice none 0 0] 45)
         simp only [World.size_alloc] at this
         exact this)
       have HBw : Hid (Below w.heap.size w w2) := (((Below.refl _ _).alloc (Nat.le_refl _) _).alloc (by simp) _).trans (HB2.mono (by omega))
       have q0 : w2.cell? ⟨w.heap.size, 0, none⟩ = some (.string x.f0) := blk_at B1.out 0 rfl
       have f0 : w2.frozen? ⟨w.heap.size, 0, none⟩ = false := blk_frozen B1.out 0
       have q1 : w2.cell? ⟨w.heap.size, 1, none⟩ = some (.int .i64 x.f1.f0) := blk_at B1.out 1 rfl
       have f1 : w2.frozen? ⟨w.heap.size, 1, none⟩ = false := blk_frozen B1.out 1
       have q2 : w2.cell? ⟨w.heap.size, 2, none⟩ = some (.int .i64 x.f1.f1) := blk_at B1.out 2 rfl
       have f2 : w2.frozen? ⟨w.heap.size, 2, none⟩ = false := blk_frozen B1.out 2
       have q3 : w2.cell? ⟨w.heap.size, 3, none⟩ = some (.string x.f1.f2) := blk_at B1.out 3 rfl
       have f3 : w2.frozen? ⟨w.heap.size, 3, none⟩ = false := blk_frozen B1.out 3
       have q4 : w2.cell? ⟨w.heap.size, 4, none⟩ = some (.slice A4 x.f1.f3.length c4) := blk_at B1.out 4 rfl
       have f4 : w2.frozen? ⟨w.heap.size, 4, none⟩ = false := blk_frozen B1.out 4
       have q5 : w2.cell? ⟨w.heap.size, 5, none⟩ = some (.slice A5 x.f2.length c5) := blk_at B1.out 5 rfl
       have f5 : w2.frozen? ⟨w.heap.size, 5, none⟩ = false := blk_frozen B1.out 5
       clear HO2 HB2 hg hat)
    | (go_at_call 41; refine (copyValue41 _ x.f1 (Nat.le_refl _) A4 c4 _ ?hC Hc4.out hp4.out).mono ?_
       case hC => exact (fun (w9 : World) (h9 : Hid (Below w.heap.size w w9)) => Kd.C_below HC4.out (h9.out.setCell (Nat.le_refl _) _)) _ HBw
       rintro e w3 ⟨v, rfl, hv, hb⟩
       obtain ⟨Av, cv, rfl⟩ := Kd.R_slice hv.out
       have D1 : Hid (w3.heap[w.heap.size]? = some (.cells #[.string x.f0, .int .i64 x.f1.f0, .int .i64 x.f1.f1, .string x.f1.f2, .slice A4 x.f1.f3.length c4, .slice Ao x.f2.length co] 45 (0, 0))) := blk_below (blk_put B1.out 5 _ rfl) hb.out
       have D2 : Hid (w3.heap[w.heap.size + 1]? = some (.cells #[.string ⟨#[]⟩, .int .i64 0, .int .i64 0, .string ⟨#[]⟩, .slice none 0 0, .slice none 0 0] 45 (0, 0))) := blk_below (blk_far B2.out (by simp) _) hb.out
       have HD : Hid (Below w.heap.size w w3) := (HBw.out.setCell (Nat.le_refl _) _).trans (hb.out.mono (by simp only [World.size_setCell]; exact HBw.out.size))
       have HOd : Hid (Kd.R (Kd.int .i64) 3 w3 (w.heap.size + 2) (fun _ => True) (.slice Ao x.f2.length co) x.f2) := Kd.R_below (R_above HO2'.out (fun j hj _ => Below.heap_setCell _ _ _ _ (by simp only []; omega))) hb.out
       have d0 : w3.cell? ⟨w.heap.size, 0, none⟩ = some (.string x.f0) := blk_at D1.out 0 rfl
       have g0 : w3.frozen? ⟨w.heap.size, 0, none⟩ = false := blk_frozen D1.out 0
       have d1 : w3.cell? ⟨w.heap.size, 1, none⟩ = some (.int .i64 x.f1.f0) := blk_at D1.out 1 rfl
       have g1 : w3.frozen? ⟨w.heap.size, 1, none⟩ = false := blk_frozen D1.out 1
       have d2 : w3.cell? ⟨w.heap.size, 2, none⟩ = some (.int .i64 x.f1.f1) := blk_at D1.out 2 rfl
       have g2 : w3.frozen? ⟨w.heap.size, 2, none⟩ = false := blk_frozen D1.out 2
       have d3 : w3.cell? ⟨w.heap.size, 3, none⟩ = some (.string x.f1.f2) := blk_at D1.out 3 rfl
       have g3 : w3.frozen? ⟨w.heap.size, 3, none⟩ = false := blk_frozen D1.out 3
       have d4 : w3.cell? ⟨w.heap.size, 4, none⟩ = some (.slice A4 x.f1.f3.length c4) := blk_at D1.out 4 rfl
       have g4 : w3.frozen? ⟨w.heap.size, 4, none⟩ = false := blk_frozen D1.out 4
       have d5 : w3.cell? ⟨w.heap.size, 5, none⟩ = some (.slice Ao x.f2.length co) := blk_at D1.out 5 rfl
       have g5 : w3.frozen? ⟨w.heap.size, 5, none⟩ = false := blk_frozen D1.out 5
       have e0 : w3.cell? ⟨(w.heap.size + 1), 0, none⟩ = some (.string ⟨#[]⟩) := blk_at D2.out 0 rfl
       have h0 : w3.frozen? ⟨(w.heap.size + 1), 0, none⟩ = false := blk_frozen D2.out 0
       have e1 : w3.cell? ⟨(w.heap.size + 1), 1, none⟩ = some (.int .i64 0) := blk_at D2.out 1 rfl
       have h1 : w3.frozen? ⟨(w.heap.size + 1), 1, none⟩ = false := blk_frozen D2.out 1
       have e2 : w3.cell? ⟨(w.heap.size + 1), 2, none⟩ = some (.int .i64 0) := blk_at D2.out 2 rfl
       have h2 : w3.frozen? ⟨(w.heap.size + 1), 2, none⟩ = false := blk_frozen D2.out 2
       have e3 : w3.cell? ⟨(w.heap.size + 1), 3, none⟩ = some (.string ⟨#[]⟩) := blk_at D2.out 3 rfl
       have h3 : w3.frozen? ⟨(w.heap.size + 1), 3, none⟩ = false := blk_frozen D2.out 3
       have e4 : w3.cell? ⟨(w.heap.size + 1), 4, none⟩ = some (.slice none 0 0) := blk_at D2.out 4 rfl
       have h4 : w3.frozen? ⟨(w.heap.size + 1), 4, none⟩ = false := blk_frozen D2.out 4
       have e5 : w3.cell? ⟨(w.heap.size + 1), 5, none⟩ = some (.slice none 0 0) := blk_at D2.out 5 rfl
       have h5 : w3.frozen? ⟨(w.heap.size + 1), 5, none⟩ = false := blk_frozen D2.out 5
       clear hb))
  refine bodyPost_ret (results_cell_row rfl _ _ (w.heap.size + 1) 45 #[.string x.f0, .int .i64 x.f1.f0, .int .i64 x.f1.f1, .string x.f1.f2, .slice Av x.f1.f3.length cv, .slice Ao x.f2.length co] (0, 0) _ rfl ?_ Try.underlying45 rfl (by kernel_rfl)) rfl ⟨_, _, rfl, ?_, ?_, ?_⟩
  · exact blk_put (blk_put (blk_put (blk_put (blk_put (blk_put (blk_far (blk_far (blk_far (blk_far D2.out (by simp) _) (by simp) _) (by simp) _) (by simp) _) 0 _ rfl) 1 _ rfl) 2 _ rfl) 3 _ rfl) 4 _ rfl) 5 _ rfl
  · have h2 : w.heap.size + 2 ≤ w2.heap.size := blk_lt B2.out
    have h3 := Lib.hid (Kd.R_lower hv.out (base' := w.heap.size + 2) (by simp only [World.size_setCell]; exact h2))
    refine Lib.hid ?_
    refine Kd.R_lower (base := w.heap.size + 2) ?_ (Nat.le_add_right _ _)
    iterate 10 refine R_low ?_ (by simp only []; omega) _
    exact h3.out
  · refine Lib.hid ?_
    refine Kd.R_lower (base := w.heap.size + 2) ?_ (Nat.le_add_right _ _)
    iterate 10 refine R_low ?_ (by simp only []; omega) _
    exact HOd.out
  · refine Lib.hid ?_
    iterate 10 refine Below.setCell ?_ (by simp) _
    exact HD.out

set_option maxRecDepth 100000 in
set_option maxHeartbeats 4000000 in
theorem copyRecords44 (l : List S45) (A : Option Addr) (c : Nat) (w : World) (hC : Kd.C k45 w A l.length l) (hc : l.length ≤ c) (hp : partsRs l ≤ 100000) :
    Calls Try.prog 44 #[.slice A l.length c] w fun e w' => ∃ v, e = .returned v ∧ Hid (Kd.R k45 45 w' w.heap.size (fun _ => True) v l) ∧ Hid (Below w.heap.size w w') := by
  obtain ⟨n, hn⟩ : ∃ n, n = l.length := ⟨_, rfl⟩
  have HC := Lib.hid hC
  have Hc := Lib.hid hc
  have Hp := Lib.hid hp
  have Hn := Lib.hid hn
  clear hC hc hp
  rw [← hn]
  clear hn
  go_enter Try.func44, Try.ntmps44
  go_wp2
  go_loopw [3, 4] (fun v3 v4 wr => ∃ k : Nat, k ≤ n ∧ v4 = .int .i64 k ∧ Hid (Kd.R k45 45 wr w.heap.size (fun _ => True) v3 (l.take k)) ∧ Hid (Below w.heap.size w wr)) (fun _ v4 _ => n - (intOf v4).toNat)
  case atStart => exact ⟨0, Nat.zero_le _, rfl, Kd.R_nil _ _ _ _ _, Below.refl _ _⟩
  case round =>
    obtain ⟨k, hk, rfl, HO, HB⟩ := hrel
    have hkl : (l.take k).length = k := by rw [List.length_take, ← Hn.out]; omega
    obtain ⟨Ao, co, hv⟩ := Kd.R_slice HO.out
    rw [hkl] at hv
    subst hv
    clear hkl
    by_cases hlt : k < n
    · obtain ⟨ad, A4, c4, A5, c5, rfl, e0, e1, e2, e3, e4, e5, hl4, hC4, hl5, hC5⟩ := at_T45 HC.out (k : Int) (by omega) (by rw [← Hn.out]; omega)
      have hmem : rd_T45 l (k : Int) ∈ l := getD_mem _ _ _ (by rw [Int.toNat_natCast, ← Hn.out]; exact hlt)
      have htk : l.take (k + 1) = l.take k ++ [rd_T45 l (k : Int)] := take_getD _ _ _ (by rw [← Hn.out]; exact hlt)
      generalize rd_T45 l (k : Int) = y at *
      have Htk := Lib.hid htk
      rw [Int.toNat_natCast] at e0 e1 e2 e3 e4 e5
      replace e0 := (HB.out.cell (World.block_lt_of_cell? w _ e0)).trans e0
      replace e1 := (HB.out.cell (World.block_lt_of_cell? w _ e1)).trans e1
      replace e2 := (HB.out.cell (World.block_lt_of_cell? w _ e2)).trans e2
      replace e3 := (HB.out.cell (World.block_lt_of_cell? w _ e3)).trans e3
      replace e4 := (HB.out.cell (World.block_lt_of_cell? w _ e4)).trans e4
      replace e5 := (HB.out.cell (World.block_lt_of_cell? w _ e5)).trans e5
      have HY := Lib.hid (copyRecord19 y A4 c4 A5 c5 wr (Kd.C_below hC4 HB.out) hl4 (Kd.C_below hC5 HB.out) hl5 (Nat.le_trans (partsRs_mem hmem) Hp.out))
      have hn64 : n ≤ 100000 := by
        have h1 := partsRs_len l
        have h2 := Hp.out
        have h3 := Hn.out
        omega
      have Hsz := Lib.hid (show w.heap.size ≤ wr.heap.size from HB.out.size)
      clear hmem htk hC4 hl4 hC5 hl5
      go_wp2_with (first
        | (go_at_call 19; refine HY.out.mono ?_; rintro e w1 ⟨v4, v5, rfl, hv4, hv5, hb⟩)
        | (at_builtin; refine Kd.R_append k45 (w0 := wr) w.heap.size rfl (.tmp 11) (.tmp 17) 35 45 (.agg #[.string ⟨#[]⟩, .int .i64 0, .int .i64 0, .string ⟨#[]⟩, .slice none 0 0, .slice none 0 0]) 96 rfl Try.underlying35 info45 rfl (by decide) (by decide) (.slice Ao k co) (l.take k) y _ (fun _ => True) (fun k_ => True ∧ some k_ ≠ (Value.slice Ao k co).ownBlock) rfl rfl ?hp (fun _ hk => hk) (fun _ _ => trivial) ?hO ?hB ?hS ?hl ?_
           case hp => exact k45_mkM _ _ _ y (Kd.R_lower (Kd.R_new' hv4.out (Kd.R_lt HO.out)) Hsz.out) (Kd.R_lower (Kd.R_new' hv5.out (Kd.R_lt HO.out)) Hsz.out)
           case hO => exact Kd.R_below HO.out hb.out
           case hB => exact hb.out.mono Hsz.out
           case hS => exact Nat.le_trans Hsz.out hb.out.size
           case hl => rw [List.length_take, ← Hn.out]; omega
           intro v1 w2 HO2 HB2 hg hat
           have HO2' := Lib.hid HO2
           have HB2' := Lib.hid HB2
           clear HO2 HB2 hg hat))
      go_roundw
      case rel =>
        refine ⟨k + 1, by omega, by go_num, ?_, ?_⟩
        · rw [Htk.out]; exact HO2'.out
        · exact HB.out.trans HB2'.out
      case measure => simp [intOf]; omega
    · go_wp2
      obtain rfl : k = n := by omega
      rw [List.take_of_length_le (by rw [Hn.out]; exact Nat.le_refl _)] at HO
      go_ret
      exact ⟨_, rfl, HO, HB⟩

set_option maxRecDepth 100000 in
set_option maxHeartbeats 4000000 in
theorem copyValue69 : ∀ (N : Nat) (x : S42), SizeOf.sizeOf x ≤ N → ∀ (A : Option Addr) (c : Nat) (w : World), Kd.C k42 w A x.f3.length x.f3 → x.f3.length ≤ c → partsV x.f3 ≤ 100000 →
    Calls Try.prog 69 #[.agg #[.int .i64 x.f0, .int .i64 x.f1, .string x.f2, .slice A x.f3.length c]] w fun e w' => ∃ v, e = .returned (.agg #[.int .i64 x.f0, .int .i64 x.f1, .string x.f2, v]) ∧ Hid (Kd.R k42 42 w' w.heap.size (fun _ => True) v x.f3) ∧ Hid (Below w.heap.size w w') := by
  intro N
  induction N with
  | zero => intro x h; cases x; simp at h
  | succ N ih =>
    intro x hN A c w hC hc hp
    obtain ⟨n, hn⟩ : ∃ n, n = x.f3.length := ⟨_, rfl⟩
    have HC := Lib.hid hC
    have Hc := Lib.hid hc
    have Hp := Lib.hid hp
    have Hn := Lib.hid hn
    have IH := Lib.hid ih
    have HN := Lib.hid hN
    clear hC hc hp ih hN
    rw [← hn]
    clear hn
    go_enter Try.func69, Try.ntmps69
    go_wp2
    go_loopw [3, 4] (fun v3 v4 wr => ∃ k : Nat, k ≤ n ∧ v4 = .int .i64 k ∧ Hid (Kd.R k42 42 wr (w.heap.size + 2) (fun _ => True) v3 (x.f3.take k)) ∧ Hid (Below w.heap.size w wr) ∧ Hid (wr.heap[w.heap.size]? = some (.cells #[.int .i64 x.f0, .int .i64 x.f1, .string x.f2, .slice A n c] 42 (0, 0))) ∧ Hid (wr.heap[w.heap.size + 1]? = some (.cells #[.int .i64 0, .int .i64 0, .string ⟨#[]⟩, .slice none 0 0] 42 (0, 0)))) (fun _ v4 _ => n - (intOf v4).toNat)
    case atStart =>
      refine ⟨0, Nat.zero_le _, rfl, Kd.R_nil _ _ _ _ _, ?_, ?_, ?_⟩
      · exact ((Below.refl _ _).alloc (Nat.le_refl _) _).alloc (by simp) _
      · exact blk_alloc (blk_new w _) _
      · have := blk_new (w.alloc (.cells #[.int .i64 x.f0, .int .i64 x.f1, .string x.f2, .slice A n c] 42)) (.cells #[.int .i64 0, .int .i64 0, .string ⟨#[]⟩, .slice none 0 0] 42)
        simp only [World.size_alloc] at this
        exact this
    case round =>
      obtain ⟨k, hk, rfl, HO, HB, B1, B2⟩ := hrel
      have c0 : wr.cell? ⟨w.heap.size, 0, none⟩ = some (.int .i64 x.f0) := blk_at B1.out 0 rfl
      have c1 : wr.cell? ⟨w.heap.size, 1, none⟩ = some (.int .i64 x.f1) := blk_at B1.out 1 rfl
      have c2 : wr.cell? ⟨w.heap.size, 2, none⟩ = some (.string x.f2) := blk_at B1.out 2 rfl
      have c3 : wr.cell? ⟨w.heap.size, 3, none⟩ = some (.slice A n c) := blk_at B1.out 3 rfl
      have hkl : (x.f3.take k).length = k := by rw [List.length_take, ← Hn.out]; omega
      obtain ⟨Ao, co, hv⟩ := Kd.R_slice HO.out
      rw [hkl] at hv
      subst hv
      clear hkl
      by_cases hlt : k < n
      · obtain ⟨ad, A3, cc, rfl, e0, e1, e2, e3, hl3, hC3⟩ := at_T42 HC.out (k : Int) (by omega) (by rw [← Hn.out]; omega)
        have hmem : rd_T42 x.f3 (k : Int) ∈ x.f3 := by
          unfold rd_T42
          rw [Int.toNat_natCast, List.getD_eq_getElem?_getD, List.getElem?_eq_getElem (by rw [← Hn.out]; exact hlt)]
          exact List.getElem_mem _
        have htk : x.f3.take (k + 1) = x.f3.take k ++ [rd_T42 x.f3 (k : Int)] := by
          unfold rd_T42
          rw [Int.toNat_natCast, List.take_succ_eq_append_getElem (by rw [← Hn.out]; exact hlt), List.getD_eq_getElem?_getD, List.getElem?_eq_getElem (by rw [← Hn.out]; exact hlt)]
          rfl
        generalize rd_T42 x.f3 (k : Int) = y at *
        have Htk := Lib.hid htk
        rw [Int.toNat_natCast] at e0 e1 e2 e3
        replace e0 := (HB.out.cell (World.block_lt_of_cell? w _ e0)).trans e0
        replace e1 := (HB.out.cell (World.block_lt_of_cell? w _ e1)).trans e1
        replace e2 := (HB.out.cell (World.block_lt_of_cell? w _ e2)).trans e2
        replace e3 := (HB.out.cell (World.block_lt_of_cell? w _ e3)).trans e3
        have HY := Lib.hid (IH.out y (by have := S42.size_mem hmem; have := HN.out; omega) A3 cc wr (Kd.C_below hC3 HB.out) hl3 (by have := partsV_mem hmem; have := Hp.out; omega))
        have hlen : Hid ((k + 1) * 56 ≤ 140737488355328) := by
          have h1 := partsV_len x.f3
          have h2 := Hp.out
          have h3 := Hn.out
          show _ ≤ _
          omega
        have hsz : w.heap.size + 2 ≤ wr.heap.size := blk_lt B2.out
        have Hsz := Lib.hid hsz
        have hn64 : n ≤ 100000 := by
          have h1 := partsV_len x.f3
          have h2 := Hp.out
          have h3 := Hn.out
          omega
        clear hmem htk hC3 hl3 hsz
        go_wp2_with (first
          | (go_at_call 69; refine HY.out.mono ?_; rintro e w1 ⟨v, rfl, hv, hb⟩)
          | (at_builtin; refine Kd.R_append k42 (w0 := wr) (w.heap.size + 2) rfl (.tmp 12) (.tmp 19) 40 42 (.agg #[.int .i64 0, .int .i64 0, .string ⟨#[]⟩, .slice none 0 0]) 56 rfl Try.underlying40 info42 rfl (by decide) (by decide) (.slice Ao k co) (x.f3.take k) y _ (fun _ => True) (fun k_ => True ∧ some k_ ≠ (Value.slice Ao k co).ownBlock) rfl rfl ?hp (fun _ hk => hk) (fun _ _ => trivial) ?hO ?hB ?hS ?hl ?_
             case hp => exact k42_mkM _ _ _ y (Kd.R_lower (Kd.R_new' hv.out (Kd.R_lt HO.out)) Hsz.out)
             case hO => exact Kd.R_below HO.out hb.out
             case hB => exact hb.out.mono Hsz.out
             case hS => exact Nat.le_trans Hsz.out hb.out.size
             case hl => rw [List.length_take, ← Hn.out]; have := hlen.out; omega
             intro v1 w2 HO2 HB2 hg hat
             have HO2' := Lib.hid HO2
             have HB2' := Lib.hid HB2
             clear HO2 HB2 hg hat))
        go_roundw
        case rel =>
          refine ⟨k + 1, by omega, by go_num, ?_, ?_, ?_, ?_⟩
          · rw [Htk.out]; exact HO2'.out
          · exact HB.out.trans (HB2'.out.mono (by omega))
          · exact (HB2'.out.block _ (by omega)).trans B1.out
          · exact (HB2'.out.block _ (by omega)).trans B2.out
        case measure => simp [intOf]; omega
      · have d0 : wr.cell? ⟨w.heap.size + 1, 0, none⟩ = some (.int .i64 0) := blk_at B2.out 0 rfl
        have d1 : wr.cell? ⟨w.heap.size + 1, 1, none⟩ = some (.int .i64 0) := blk_at B2.out 1 rfl
        have d2 : wr.cell? ⟨w.heap.size + 1, 2, none⟩ = some (.string ⟨#[]⟩) := blk_at B2.out 2 rfl
        have d3 : wr.cell? ⟨w.heap.size + 1, 3, none⟩ = some (.slice none 0 0) := blk_at B2.out 3 rfl
        have f3 : wr.frozen? ⟨w.heap.size, 3, none⟩ = false := blk_frozen B1.out 3
        have g0 : wr.frozen? ⟨w.heap.size + 1, 0, none⟩ = false := blk_frozen B2.out 0
        have g1 : wr.frozen? ⟨w.heap.size + 1, 1, none⟩ = false := blk_frozen B2.out 1
        have g2 : wr.frozen? ⟨w.heap.size + 1, 2, none⟩ = false := blk_frozen B2.out 2
        have g3 : wr.frozen? ⟨w.heap.size + 1, 3, none⟩ = false := blk_frozen B2.out 3
        go_wp2
        obtain rfl : k = n := by omega
        rw [List.take_of_length_le (by rw [Hn.out]; exact Nat.le_refl _)] at HO
        refine bodyPost_ret (results_cell_row rfl _ _ (w.heap.size + 1) 42 #[.int .i64 x.f0, .int .i64 x.f1, .string x.f2, .slice Ao k co] (0, 0) _ rfl ?_ Try.underlying42 rfl (by kernel_rfl)) rfl ⟨_, rfl, ?_, ?_⟩
        · exact blk_put (blk_put (blk_put (blk_put (blk_far B2.out (by simp) _) 0 _ rfl) 1 _ rfl) 2 _ rfl) 3 _ rfl
        · refine Lib.hid ?_
          refine Kd.R_lower (base := w.heap.size + 2) ?_ (Nat.le_add_right _ _)
          iterate 5 refine R_low ?_ (by simp only []; omega) _
          exact HO.out
        · refine Lib.hid ?_
          iterate 5 refine Below.setCell ?_ (by simp) _
          exact HB.out

set_option maxRecDepth 100000 in
set_option maxHeartbeats 4000000 in
theorem copyRecord61 (x : S45) (A4 : Option Addr) (c4 : Nat) (A5 : Option Addr) (c5 : Nat) (w : World) (hC4 : Kd.C k42 w A4 x.f1.f3.length x.f1.f3) (hc4 : x.f1.f3.length ≤ c4) (hC5 : Kd.C (Kd.int .i64) w A5 x.f2.length x.f2) (hc5 : x.f2.length ≤ c5) (hp : partsR x ≤ 100000) :
    Calls Try.prog 61 #[.agg #[.string x.f0, .int .i64 x.f1.f0, .int .i64 x.f1.f1, .string x.f1.f2, .slice A4 x.f1.f3.length c4, .slice A5 x.f2.length c5]] w fun e w' => ∃ v4 v5, e = .returned (.agg #[.string x.f0, .int .i64 x.f1.f0, .int .i64 x.f1.f1, .string x.f1.f2, v4, v5]) ∧ Hid (Kd.R k42 42 w' w.heap.size (fun _ => True) v4 x.f1.f3) ∧ Hid (Kd.R (Kd.int .i64) 3 w' w.heap.size (fun _ => True) v5 x.f2) ∧ Hid (Below w.heap.size w w') := by
  have HC4 := Lib.hid hC4
  have Hc4 := Lib.hid hc4
  have HC5 := Lib.hid hC5
  have Hc5 := Lib.hid hc5
  have hp4 : Hid (partsV x.f1.f3 ≤ 100000) := by unfold partsR at hp; show _ ≤ _; omega
  have hp5 : Hid (x.f2.length ≤ 100000) := by unfold partsR at hp; show _ ≤ _; omega
  clear hC4 hc4 hC5 hc5 hp
  go_enter Try.func61, Try.ntmps61
  go_wp2_with (first
    | (at_builtin; refine Kd.R_append_row (Value.int .i64) 0 (h1 := fun _ => rfl) (w0 := (w.alloc (.cells #[.string x.f0, .int .i64 x.f1.f0, .int .i64 x.f1.f1, .string x.f1.f2, .slice A4 x.f1.f3.length c4, .slice A5 x.f2.length c5] 45)).alloc (.cells #[.string ⟨#[]⟩, .int .i64 0, .int .i64 0, .string ⟨#[]⟩, .slice none 0 0, .slice none 0 0] 45)) (w.heap.size + 2) rfl (.tmp 4) (.tmp 6) 43 3 (.int .i64 0) 8 rfl Try.underlying43 info3 rfl (by decide) (.slice none 0 0) [] x.f2 A5 x.f2.length c5 (fun _ => True) rfl rfl (fun _ _ => trivial) (Kd.R_nil _ _ _ _ _) ?hR (Below.refl _ _) (by simp) ?hl ?_
       case hR => exact Kd.C_alloc (Kd.C_alloc HC5.out _) _
       case hl => have := hp5.out; simp only [List.length_nil]; omega
       intro v1 w2 HO2 HB2 hg hat
       rw [List.nil_append] at HO2
       obtain ⟨Ao, co, rfl⟩ := Kd.R_slice HO2
       have HO2' := Lib.hid HO2
       have B1 : Hid (w2.heap[w.heap.size]? = some (.cells #[.string x.f0, .int .i64 x.f1.f0, .int .i64 x.f1.f1, .string x.f1.f2, .slice A4 x.f1.f3.length c4, .slice A5 x.f2.length c5] 45 (0, 0))) := (HB2.block _ (by omega)).trans (blk_alloc (blk_new w _) _)
       have B2 : Hid (w2.heap[w.heap.size + 1]? = some (.cells #[.string ⟨#[]⟩, .int .i64 0, .int .i64 0, .string ⟨#[]⟩, .slice none 0 0, .slice none 0 0] 45 (0, 0))) := (HB2.block _ (by omega)).trans (by
         have := blk_new (w.alloc (.cells #[.string x.f0, .int .i64 x.f1.f0, .int .i64 x.f1.f1, .string x.f1.f2, .slice A4 x.f1.f3.length c4, .slice A5 x.f2.length c5] 45)) (.cells #[.string ⟨#[]⟩, .int .i64 0, .int .i64 0, .string ⟨#[]⟩, .slice none 0 0, .slice none 0 0] 45)
         simp only [World.size_alloc] at this
         exact this)
       have HBw : Hid (Below w.heap.size w w2) := (((Below.refl _ _).alloc (Nat.le_refl _) _).alloc (by simp) _).trans (HB2.mono (by omega))
       have q0 : w2.cell? ⟨w.heap.size, 0, none⟩ = some (.string x.f0) := blk_at B1.out 0 rfl
       have f0 : w2.frozen? ⟨w.heap.size, 0, none⟩ = false := blk_frozen B1.out 0
       have q1 : w2.cell? ⟨w.heap.size, 1, none⟩ = some (.int .i64 x.f1.f0) := blk_at B1.out 1 rfl
       have f1 : w2.frozen? ⟨w.heap.size, 1, none⟩ = false := blk_frozen B1.out 1
       have q2 : w2.cell? ⟨w.heap.size, 2, none⟩ = some (.int .i64 x.f1.f1) := blk_at B1.out 2 rfl
       have f2 : w2.frozen? ⟨w.heap.size, 2, none⟩ = false := blk_frozen B1.out 2
       have q3 : w2.cell? ⟨w.heap.size, 3, none⟩ = some (.string x.f1.f2) := blk_at B1.out 3 rfl
       have f3 : w2.frozen? ⟨w.heap.size, 3, none⟩ = false := blk_frozen B1.out 3
       have q4 : w2.cell? ⟨w.heap.size, 4, none⟩ = some (.slice A4 x.f1.f3.length c4) := blk_at B1.out 4 rfl
       have f4 : w2.frozen? ⟨w.heap.size, 4, none⟩ = false := blk_frozen B1.out 4
       have q5 : w2.cell? ⟨w.heap.size, 5, none⟩ = some (.slice A5 x.f2.length c5) := blk_at B1.out 5 rfl
       have f5 : w2.frozen? ⟨w.heap.size, 5, none⟩ = false := blk_frozen B1.out 5
       clear HO2 HB2 hg hat)
    | (go_at_call 69; refine (copyValue69 _ x.f1 (Nat.le_refl _) A4 c4 _ ?hC Hc4.out hp4.out).mono ?_
       case hC => exact (fun (w9 : World) (h9 : Hid (Below w.heap.size w w9)) => Kd.C_below HC4.out (h9.out.setCell (Nat.le_refl _) _)) _ HBw
       rintro e w3 ⟨v, rfl, hv, hb⟩
       obtain ⟨Av, cv, rfl⟩ := Kd.R_slice hv.out
       have D1 : Hid (w3.heap[w.heap.size]? = some (.cells #[.string x.f0, .int .i64 x.f1.f0, .int .i64 x.f1.f1, .string x.f1.f2, .slice A4 x.f1.f3.length c4, .slice Ao x.f2.length co] 45 (0, 0))) := blk_below (blk_put B1.out 5 _ rfl) hb.out
       have D2 : Hid (w3.heap[w.heap.size + 1]? = some (.cells #[.string ⟨#[]⟩, .int .i64 0, .int .i64 0, .string ⟨#[]⟩, .slice none 0 0, .slice none 0 0] 45 (0, 0))) := blk_below (blk_far B2.out (by simp) _) hb.out
       have HD : Hid (Below w.heap.size w w3) := (HBw.out.setCell (Nat.le_refl _) _).trans (hb.out.mono (by simp only [World.size_setCell]; exact HBw.out.size))
       have HOd : Hid (Kd.R (Kd.int .i64) 3 w3 (w.heap.size + 2) (fun _ => True) (.slice Ao x.f2.length co) x.f2) := Kd.R_below (R_above HO2'.out (fun j hj _ => Below.heap_setCell _ _ _ _ (by simp only []; omega))) hb.out
       have d0 : w3.cell? ⟨w.heap.size, 0, none⟩ = some (.string x.f0) := blk_at D1.out 0 rfl
       have g0 : w3.frozen? ⟨w.heap.size, 0, none⟩ = false := blk_frozen D1.out 0
       have d1 : w3.cell? ⟨w.heap.size, 1, none⟩ = some (.int .i64 x.f1.f0) := blk_at D1.out 1 rfl
       have g1 : w3.frozen? ⟨w.heap.size, 1, none⟩ = false := blk_frozen D1.out 1
       have d2 : w3.cell? ⟨w.heap.size, 2, none⟩ = some (.int .i64 x.f1.f1) := blk_at D1.out 2 rfl
       have g2 : w3.frozen? ⟨w.heap.size, 2, none⟩ = false := blk_frozen D1.out 2
       have d3 : w3.cell? ⟨w.heap.size, 3, none⟩ = some (.string x.f1.f2) := blk_at D1.out 3 rfl
       have g3 : w3.frozen? ⟨w.heap.size, 3, none⟩ = false := blk_frozen D1.out 3
       have d4 : w3.cell? ⟨w.heap.size, 4, none⟩ = some (.slice A4 x.f1.f3.length c4) := blk_at D1.out 4 rfl
       have g4 : w3.frozen? ⟨w.heap.size, 4, none⟩ = false := blk_frozen D1.out 4
       have d5 : w3.cell? ⟨w.heap.size, 5, none⟩ = some (.slice Ao x.f2.length co) := blk_at D1.out 5 rfl
       have g5 : w3.frozen? ⟨w.heap.size, 5, none⟩ = false := blk_frozen D1.out 5
       have e0 : w3.cell? ⟨(w.heap.size + 1), 0, none⟩ = some (.string ⟨#[]⟩) := blk_at D2.out 0 rfl
       have h0 : w3.frozen? ⟨(w.heap.size + 1), 0, none⟩ = false := blk_frozen D2.out 0
       have e1 : w3.cell? ⟨(w.heap.size + 1), 1, none⟩ = some (.int .i64 0) := blk_at D2.out 1 rfl
       have h1 : w3.frozen? ⟨(w.heap.size + 1), 1, none⟩ = false := blk_frozen D2.out 1
       have e2 : w3.cell? ⟨(w.heap.size + 1), 2, none⟩ = some (.int .i64 0) := blk_at D2.out 2 rfl
       have h2 : w3.frozen? ⟨(w.heap.size + 1), 2, none⟩ = false := blk_frozen D2.out 2
       have e3 : w3.cell? ⟨(w.heap.size + 1), 3, none⟩ = some (.string ⟨#[]⟩) := blk_at D2.out 3 rfl
       have h3 : w3.frozen? ⟨(w.heap.size + 1), 3, none⟩ = false := blk_frozen D2.out 3
       have e4 : w3.cell? ⟨(w.heap.size + 1), 4, none⟩ = some (.slice none 0 0) := blk_at D2.out 4 rfl
       have h4 : w3.frozen? ⟨(w.heap.size + 1), 4, none⟩ = false := blk_frozen D2.out 4
       have e5 : w3.cell? ⟨(w.heap.size + 1), 5, none⟩ = some (.slice none 0 0) := blk_at D2.out 5 rfl
       have h5 : w3.frozen? ⟨(w.heap.size + 1), 5, none⟩ = false := blk_frozen D2.out 5
       clear hb))
  refine bodyPost_ret (results_cell_row rfl _ _ (w.heap.size + 1) 45 #[.string x.f0, .int .i64 x.f1.f0, .int .i64 x.f1.f1, .string x.f1.f2, .slice Av x.f1.f3.length cv, .slice Ao x.f2.length co] (0, 0) _ rfl ?_ Try.underlying45 rfl (by kernel_rfl)) rfl ⟨_, _, rfl, ?_, ?_, ?_⟩
  · exact blk_put (blk_put (blk_put (blk_put (blk_put (blk_put (blk_far (blk_far (blk_far (blk_far D2.out (by simp) _) (by simp) _) (by simp) _) (by simp) _) 0 _ rfl) 1 _ rfl) 2 _ rfl) 3 _ rfl) 4 _ rfl) 5 _ rfl
  · have h2 : w.heap.size + 2 ≤ w2.heap.size := blk_lt B2.out
    have h3 := Lib.hid (Kd.R_lower hv.out (base' := w.heap.size + 2) (by simp only [World.size_setCell]; exact h2))
    refine Lib.hid ?_
    refine Kd.R_lower (base := w.heap.size + 2) ?_ (Nat.le_add_right _ _)
    iterate 10 refine R_low ?_ (by simp only []; omega) _
    exact h3.out
  · refine Lib.hid ?_
    refine Kd.R_lower (base := w.heap.size + 2) ?_ (Nat.le_add_right _ _)
    iterate 10 refine R_low ?_ (by simp only []; omega) _
    exact HOd.out
  · refine Lib.hid ?_
    iterate 10 refine Below.setCell ?_ (by simp) _
    exact HD.out

set_option maxRecDepth 100000 in
set_option maxHeartbeats 4000000 in
theorem copyRecords64 (l : List S45) (A : Option Addr) (c : Nat) (w : World) (hC : Kd.C k45 w A l.length l) (hc : l.length ≤ c) (hp : partsRs l ≤ 100000) :
    Calls Try.prog 64 #[.slice A l.length c] w fun e w' => ∃ v, e = .returned v ∧ Hid (Kd.R k45 45 w' w.heap.size (fun _ => True) v l) ∧ Hid (Below w.heap.size w w') := by
  obtain ⟨n, hn⟩ : ∃ n, n = l.length := ⟨_, rfl⟩
  have HC := Lib.hid hC
  have Hc := Lib.hid hc
  have Hp := Lib.hid hp
  have Hn := Lib.hid hn
  clear hC hc hp
  rw [← hn]
  clear hn
  go_enter Try.func64, Try.ntmps64
  go_wp2
  go_loopw [3, 4] (fun v3 v4 wr => ∃ k : Nat, k ≤ n ∧ v4 = .int .i64 k ∧ Hid (Kd.R k45 45 wr w.heap.size (fun _ => True) v3 (l.take k)) ∧ Hid (Below w.heap.size w wr)) (fun _ v4 _ => n - (intOf v4).toNat)
  case atStart => exact ⟨0, Nat.zero_le _, rfl, Kd.R_nil _ _ _ _ _, Below.refl _ _⟩
  case round =>
    obtain ⟨k, hk, rfl, HO, HB⟩ := hrel
    have hkl : (l.take k).length = k := by rw [List.length_take, ← Hn.out]; omega
    obtain ⟨Ao, co, hv⟩ := Kd.R_slice HO.out
    rw [hkl] at hv
    subst hv
    clear hkl
    by_cases hlt : k < n
    · obtain ⟨ad, A4, c4, A5, c5, rfl, e0, e1, e2, e3, e4, e5, hl4, hC4, hl5, hC5⟩ := at_T45 HC.out (k : Int) (by omega) (by rw [← Hn.out]; omega)
      have hmem : rd_T45 l (k : Int) ∈ l := getD_mem _ _ _ (by rw [Int.toNat_natCast, ← Hn.out]; exact hlt)
      have htk : l.take (k + 1) = l.take k ++ [rd_T45 l (k : Int)] := take_getD _ _ _ (by rw [← Hn.out]; exact hlt)
      generalize rd_T45 l (k : Int) = y at *
      have Htk := Lib.hid htk
      rw [Int.toNat_natCast] at e0 e1 e2 e3 e4 e5
      replace e0 := (HB.out.cell (World.block_lt_of_cell? w _ e0)).trans e0
      replace e1 := (HB.out.cell (World.block_lt_of_cell? w _ e1)).trans e1
      replace e2 := (HB.out.cell (World.block_lt_of_cell? w _ e2)).trans e2
      replace e3 := (HB.out.cell (World.block_lt_of_cell? w _ e3)).trans e3
      replace e4 := (HB.out.cell (World.block_lt_of_cell? w _ e4)).trans e4
      replace e5 := (HB.out.cell (World.block_lt_of_cell? w _ e5)).trans e5
      have HY := Lib.hid (copyRecord61 y A4 c4 A5 c5 wr (Kd.C_below hC4 HB.out) hl4 (Kd.C_below hC5 HB.out) hl5 (Nat.le_trans (partsRs_mem hmem) Hp.out))
      have hn64 : n ≤ 100000 := by
        have h1 := partsRs_len l
        have h2 := Hp.out
        have h3 := Hn.out
        omega
      have Hsz := Lib.hid (show w.heap.size ≤ wr.heap.size from HB.out.size)
      clear hmem htk hC4 hl4 hC5 hl5
      go_wp2_with (first
        | (go_at_call 61; refine HY.out.mono ?_; rintro e w1 ⟨v4, v5, rfl, hv4, hv5, hb⟩)
        | (at_builtin; refine Kd.R_append k45 (w0 := wr) w.heap.size rfl (.tmp 11) (.tmp 17) 35 45 (.agg #[.string ⟨#[]⟩, .int .i64 0, .int .i64 0, .string ⟨#[]⟩, .slice none 0 0, .slice none 0 0]) 96 rfl Try.underlying35 info45 rfl (by decide) (by decide) (.slice Ao k co) (l.take k) y _ (fun _ => True) (fun k_ => True ∧ some k_ ≠ (Value.slice Ao k co).ownBlock) rfl rfl ?hp (fun _ hk => hk) (fun _ _ => trivial) ?hO ?hB ?hS ?hl ?_
           case hp => exact k45_mkM _ _ _ y (Kd.R_lower (Kd.R_new' hv4.out (Kd.R_lt HO.out)) Hsz.out) (Kd.R_lower (Kd.R_new' hv5.out (Kd.R_lt HO.out)) Hsz.out)
           case hO => exact Kd.R_below HO.out hb.out
           case hB => exact hb.out.mono Hsz.out
           case hS => exact Nat.le_trans Hsz.out hb.out.size
           case hl => rw [List.length_take, ← Hn.out]; omega
           intro v1 w2 HO2 HB2 hg hat
           have HO2' := Lib.hid HO2
           have HB2' := Lib.hid HB2
           clear HO2 HB2 hg hat))
      go_roundw
      case rel =>
        refine ⟨k + 1, by omega, by go_num, ?_, ?_⟩
        · rw [Htk.out]; exact HO2'.out
        · exact HB.out.trans HB2'.out
      case measure => simp [intOf]; omega
    · go_wp2
      obtain rfl : k = n := by omega
      rw [List.take_of_length_le (by rw [Hn.out]; exact Nat.le_refl _)] at HO
      go_ret
      exact ⟨_, rfl, HO, HB⟩

end Go.Proofs.Ytomfknblehkocaa.C
