/- copyValue: a value's copy is the same value in new memory. -/
import Derived.Test.YtomfknblehkocaaT
namespace Go.Proofs.Ytomfknblehkocaa.C
open Go.RowKit Go.Proofs.YtomfknblehkocaaW.PrintWords Go.Proofs.YtomfknblehkocaaW.PrintLast
set_option linter.unusedVariables false

set_option maxRecDepth 100000 in
set_option maxHeartbeats 4000000 in
theorem copyValue41 : ∀ (N : Nat) (x : S42), SizeOf.sizeOf x ≤ N → ∀ (A : Option Addr) (c : Nat) (w : World), Kd.C k42 w A x.f3.length x.f3 → x.f3.length ≤ c → partsV x.f3 ≤ 100000 →
    Calls Try.prog 41 #[.agg #[.int .i64 x.f0, .int .i64 x.f1, .string x.f2, .slice A x.f3.length c]] w fun e w' => ∃ v, e = .returned (.agg #[.int .i64 x.f0, .int .i64 x.f1, .string x.f2, v]) ∧ Hid (Kd.R k42 42 w' w.heap.size (fun _ => True) v x.f3) ∧ Hid (Below w.heap.size w w') := by
  intro N
  induction N with
  | zero => intro x h; cases x; simp at h
  | succ N ih =>
    intro x hN A c w hC hc hp
    obtain ⟨n, hn⟩ : ∃ n, n = x.f3.length := ⟨_, rfl⟩
    have HC := Lib.hid hC
    have Hc := Lib.hid hc
    have Hp := Lib.hid hp
    have Hn := Lib.hid hn
    have IH := Lib.hid ih
    have HN := Lib.hid hN
    clear hC hc hp ih hN
    rw [← hn]
    clear hn
    go_enter Try.func41, Try.ntmps41
    go_wp2
    go_loopw [3, 4] (fun v3 v4 wr => ∃ k : Nat, k ≤ n ∧ v4 = .int .i64 k ∧ Hid (Kd.R k42 42 wr (w.heap.size + 2) (fun _ => True) v3 (x.f3.take k)) ∧ Hid (Below w.heap.size w wr) ∧ Hid (wr.heap[w.heap.size]? = some (.cells #[.int .i64 x.f0, .int .i64 x.f1, .string x.f2, .slice A n c] 42 (0, 0))) ∧ Hid (wr.heap[w.heap.size + 1]? = some (.cells #[.int .i64 0, .int .i64 0, .string ⟨#[]⟩, .slice none 0 0] 42 (0, 0)))) (fun _ v4 _ => n - (intOf v4).toNat)
    case atStart =>
      refine ⟨0, Nat.zero_le _, rfl, Kd.R_nil _ _ _ _ _, ?_, ?_, ?_⟩
      · exact ((Below.refl _ _).alloc (Nat.le_refl _) _).alloc (by simp) _
      · exact blk_alloc (blk_new w _) _
      · have := blk_new (w.alloc (.cells #[.int .i64 x.f0, .int .i64 x.f1, .string x.f2, .slice A n c] 42)) (.cells #[.int .i64 0, .int .i64 0, .string ⟨#[]⟩, .slice none 0 0] 42)
        simp only [World.size_alloc] at this
        exact this
    case round =>
      obtain ⟨k, hk, rfl, HO, HB, B1, B2⟩ := hrel
      have c0 : wr.cell? ⟨w.heap.size, 0, none⟩ = some (.int .i64 x.f0) := blk_at B1.out 0 rfl
      have c1 : wr.cell? ⟨w.heap.size, 1, none⟩ = some (.int .i64 x.f1) := blk_at B1.out 1 rfl
      have c2 : wr.cell? ⟨w.heap.size, 2, none⟩ = some (.string x.f2) := blk_at B1.out 2 rfl
      have c3 : wr.cell? ⟨w.heap.size, 3, none⟩ = some (.slice A n c) := blk_at B1.out 3 rfl
      have hkl : (x.f3.take k).length = k := by rw [List.length_take, ← Hn.out]; omega
      obtain ⟨Ao, co, hv⟩ := Kd.R_slice HO.out
      rw [hkl] at hv
      subst hv
      clear hkl
      by_cases hlt : k < n
      · obtain ⟨ad, A3, cc, rfl, e0, e1, e2, e3, hl3, hC3⟩ := at_T42 HC.out (k : Int) (by omega) (by rw [← Hn.out]; omega)
        have hmem : rd_T42 x.f3 (k : Int) ∈ x.f3 := by
          unfold rd_T42
          rw [Int.toNat_natCast, List.getD_eq_getElem?_getD, List.getElem?_eq_getElem (by rw [← Hn.out]; exact hlt)]
          exact List.getElem_mem _
        have htk : x.f3.take (k + 1) = x.f3.take k ++ [rd_T42 x.f3 (k : Int)] := by
          unfold rd_T42
          rw [Int.toNat_natCast, List.take_succ_eq_append_getElem (by rw [← Hn.out]; exact hlt), List.getD_eq_getElem?_getD, List.getElem?_eq_getElem (by rw [← Hn.out]; exact hlt)]
          rfl
        generalize rd_T42 x.f3 (k : Int) = y at *
        have Htk := Lib.hid htk
        rw [Int.toNat_natCast] at e0 e1 e2 e3
        replace e0 := (HB.out.cell (World.block_lt_of_cell? w _ e0)).trans e0
        replace e1 := (HB.out.cell (World.block_lt_of_cell? w _ e1)).trans e1
        replace e2 := (HB.out.cell (World.block_lt_of_cell? w _ e2)).trans e2
        replace e3 := (HB.out.cell (World.block_lt_of_cell? w _ e3)).trans e3
        have HY := Lib.hid (IH.out y (by have := S42.size_mem hmem; have := HN.out; omega) A3 cc wr (Kd.C_below hC3 HB.out) hl3 (by have := partsV_mem hmem; have := Hp.out; omega))
        have hlen : Hid ((k + 1) * 56 ≤ 140737488355328) := by
          have h1 := partsV_len x.f3
          have h2 := Hp.out
          have h3 := Hn.out
          show _ ≤ _
          omega
        have hsz : w.heap.size + 2 ≤ wr.heap.size := blk_lt B2.out
        have Hsz := Lib.hid hsz
        have hn64 : n ≤ 100000 := by
          have h1 := partsV_len x.f3
          have h2 := Hp.out
          have h3 := Hn.out
          omega
        clear hmem htk hC3 hl3 hsz
        go_wp2_with (first
          | (go_at_call 41; refine HY.out.mono ?_; rintro e w1 ⟨v, rfl, hv, hb⟩)
          | (at_builtin; refine Kd.R_append k42 (w0 := wr) (w.heap.size + 2) rfl (.tmp 12) (.tmp 19) 40 42 (.agg #[.int .i64 0, .int .i64 0, .string ⟨#[]⟩, .slice none 0 0]) 56 rfl Try.underlying40 info42 rfl (by decide) (by decide) (.slice Ao k co) (x.f3.take k) y _ (fun _ => True) (fun k_ => True ∧ some k_ ≠ (Value.slice Ao k co).ownBlock) rfl rfl ?hp (fun _ hk => hk) (fun _ _ => trivial) ?hO ?hB ?hS ?hl ?_
             case hp => exact k42_mkM _ _ _ y (Kd.R_lower (Kd.R_new' hv.out (Kd.R_lt HO.out)) Hsz.out)
             case hO => exact Kd.R_below HO.out hb.out
             case hB => exact hb.out.mono Hsz.out
             case hS => exact Nat.le_trans Hsz.out hb.out.size
             case hl => rw [List.length_take, ← Hn.out]; have := hlen.out; omega
             intro v1 w2 HO2 HB2 hg hat
             have HO2' := Lib.hid HO2
             have HB2' := Lib.hid HB2
             clear HO2 HB2 hg hat))
        go_roundw
        case rel =>
          refine ⟨k + 1, by omega, by go_num, ?_, ?_, ?_, ?_⟩
          · rw [Htk.out]; exact HO2'.out
          · exact HB.out.trans (HB2'.out.mono (by omega))
          · exact (HB2'.out.block _ (by omega)).trans B1.out
          · exact (HB2'.out.block _ (by omega)).trans B2.out
        case measure => simp [intOf]; omega
      · have d0 : wr.cell? ⟨w.heap.size + 1, 0, none⟩ = some (.int .i64 0) := blk_at B2.out 0 rfl
        have d1 : wr.cell? ⟨w.heap.size + 1, 1, none⟩ = some (.int .i64 0) := blk_at B2.out 1 rfl
        have d2 : wr.cell? ⟨w.heap.size + 1, 2, none⟩ = some (.string ⟨#[]⟩) := blk_at B2.out 2 rfl
        have d3 : wr.cell? ⟨w.heap.size + 1, 3, none⟩ = some (.slice none 0 0) := blk_at B2.out 3 rfl
        have f3 : wr.frozen? ⟨w.heap.size, 3, none⟩ = false := blk_frozen B1.out 3
        have g0 : wr.frozen? ⟨w.heap.size + 1, 0, none⟩ = false := blk_frozen B2.out 0
        have g1 : wr.frozen? ⟨w.heap.size + 1, 1, none⟩ = false := blk_frozen B2.out 1
        have g2 : wr.frozen? ⟨w.heap.size + 1, 2, none⟩ = false := blk_frozen B2.out 2
        have g3 : wr.frozen? ⟨w.heap.size + 1, 3, none⟩ = false := blk_frozen B2.out 3
        go_wp2
        obtain rfl : k = n := by omega
        rw [List.take_of_length_le (by rw [Hn.out]; exact Nat.le_refl _)] at HO
        refine bodyPost_ret (results_cell_row rfl _ _ (w.heap.size + 1) 42 #[.int .i64 x.f0, .int .i64 x.f1, .string x.f2, .slice Ao k co] (0, 0) _ rfl ?_ Try.underlying42 rfl (by kernel_rfl)) rfl ⟨_, rfl, ?_, ?_⟩
        · exact blk_put (blk_put (blk_put (blk_put (blk_far B2.out (by simp) _) 0 _ rfl) 1 _ rfl) 2 _ rfl) 3 _ rfl
        · refine Lib.hid ?_
          refine Kd.R_lower (base := w.heap.size + 2) ?_ (Nat.le_add_right _ _)
          iterate 5 refine R_low ?_ (by simp only []; omega) _
          exact HO.out
        · refine Lib.hid ?_
          iterate 5 refine Below.setCell ?_ (by simp) _
          exact HB.out
end Go.Proofs.Ytomfknblehkocaa.C
