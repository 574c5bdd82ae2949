/- The document's copies: Value, values, Record, Records. -/
import Derived.Test.YtcbaiplamaopeaaPF
namespace Go.Proofs.Ytcbaiplamaopeaa.PPostShots
open Go.RowKit Go.Conc Go.Proofs.YtcbaiplamaopeaaW.PrintWords Go.Proofs.YtcbaiplamaopeaaW.PrintLast Go.Proofs.Ytcbaiplamaopeaa.PPost
set_option linter.unusedVariables false
set_option linter.unusedSimpArgs false

theorem at_Int {w : World} {A : Option Addr} {n : Nat} {xs : List Int} (h : Kd.C (Kd.int .i64) w A n xs) (i : Nat) (hi : i < n) : ∃ ad, A = some ad ∧ w.cell? (ad.add i) = some (.int .i64 (xs.getD i 0)) := by
  obtain ⟨ad, c, e, _, hK, hc⟩ := Kd.C_get h 0 (i : Int) (by omega) (by omega)
  have hK' : c = [.int .i64 (xs.getD i 0)] := hK
  subst hK'
  refine ⟨ad, e, ?_⟩
  have hq := hc 0 _ rfl
  rw [Int.toNat_natCast, show i * (Kd.int .i64).sz + 0 = i from Nat.mul_one i] at hq
  exact hq
set_option maxRecDepth 100000 in
set_option maxHeartbeats 4000000 in
theorem value61 : ∀ (N : Nat) (x : S81), SizeOf.sizeOf x ≤ N → ∀ (A : Option Addr) (c : Nat) (w : World), Kd.C k81 w A x.f3.length x.f3 → x.f3.length ≤ c → partsV x.f3 ≤ 100000 →
    Calls Try.prog 61 #[.agg #[.int .i64 x.f0, .int .i64 x.f1, .string x.f2, .slice A x.f3.length c]] w fun e w' => ∃ v, e = .returned (.agg #[.int .i64 x.f0, .int .i64 x.f1, .string x.f2, v]) ∧ Hid (Kd.R k81 81 w' w.heap.size (fun _ => True) v x.f3) ∧ Hid (Below w.heap.size w w') := by
  intro N
  induction N with
  | zero => intro x h; cases x; simp at h
  | succ N ih =>
    intro x hN A c w hC hc hp
    obtain ⟨n, hn⟩ : ∃ n, n = x.f3.length := ⟨_, rfl⟩
    have HC := Lib.hid hC
    have Hc := Lib.hid hc
    have Hp := Lib.hid hp
    have Hn := Lib.hid hn
    have IH := Lib.hid ih
    have HN := Lib.hid hN
    have Hn64 : Hid (n ≤ 100000) := Lib.hid (by have := partsV_len x.f3; omega)
    clear hC hc hp ih hN
    rw [← hn]
    clear hn
    go_enter Try.func61, Try.ntmps61
    go_wp2_with (fail)
    go_loopw [3, 4] (fun v3 v4 wr => ∃ k : Nat, k ≤ n ∧ v4 = .int .i64 k ∧ Hid (Kd.R k81 81 wr (w.heap.size + 2) (fun _ => True) v3 (x.f3.take k)) ∧ Hid (Below w.heap.size w wr) ∧ Hid (wr.heap[w.heap.size]? = some (.cells #[.int .i64 x.f0, .int .i64 x.f1, .string x.f2, .slice A n c] 81 (0, 0))) ∧ Hid (wr.heap[w.heap.size + 1]? = some (.cells #[.int .i64 0, .int .i64 0, .string ⟨#[]⟩, .slice none 0 0] 81 (0, 0)))) (fun _ v4 _ => n - (intOf v4).toNat)
    case atStart =>
      refine ⟨0, Nat.zero_le _, rfl, Lib.hid (Kd.R_nil _ _ _ _ _), Lib.hid ?_, Lib.hid ?_, Lib.hid ?_⟩
      · exact ((Below.refl _ _).alloc (Nat.le_refl _) _).alloc (by simp) _
      · exact blk_alloc (blk_new w _) _
      · have := blk_new (w.alloc (.cells #[.int .i64 x.f0, .int .i64 x.f1, .string x.f2, .slice A n c] 81)) (.cells #[.int .i64 0, .int .i64 0, .string ⟨#[]⟩, .slice none 0 0] 81)
        simp only [World.size_alloc] at this
        exact this
    case round =>
      obtain ⟨k, hk, rfl, HO, HB, B1, B2⟩ := hrel
      have c0 : wr.cell? ⟨w.heap.size, 0, none⟩ = some (.int .i64 x.f0) := blk_at B1.out 0 rfl
      have c1 : wr.cell? ⟨w.heap.size, 1, none⟩ = some (.int .i64 x.f1) := blk_at B1.out 1 rfl
      have c2 : wr.cell? ⟨w.heap.size, 2, none⟩ = some (.string x.f2) := blk_at B1.out 2 rfl
      have c3 : wr.cell? ⟨w.heap.size, 3, none⟩ = some (.slice A n c) := blk_at B1.out 3 rfl
      have hkl : (x.f3.take k).length = k := by rw [List.length_take, ← Hn.out]; omega
      obtain ⟨Ao, co, hv⟩ := Kd.R_slice HO.out
      rw [hkl] at hv
      subst hv
      clear hkl
      by_cases hlt : k < n
      · obtain ⟨ad, A3, c3', rfl, e0, e1, e2, e3, hl3, hC3⟩ := at_T81 HC.out (k : Int) (by omega) (by rw [← Hn.out]; omega)
        have hmem : rd_T81 x.f3 (k : Int) ∈ x.f3 := getD_mem _ _ _ (by rw [Int.toNat_natCast, ← Hn.out]; exact hlt)
        have htk : x.f3.take (k + 1) = x.f3.take k ++ [rd_T81 x.f3 (k : Int)] := take_getD _ _ _ (by rw [← Hn.out]; exact hlt)
        generalize rd_T81 x.f3 (k : Int) = y at *
        have Htk := Lib.hid htk
        rw [Int.toNat_natCast] at e0 e1 e2 e3
        replace e0 := pw_cell_below HB.out e0
        replace e1 := pw_cell_below HB.out e1
        replace e2 := pw_cell_below HB.out e2
        replace e3 := pw_cell_below HB.out e3
        have HY := Lib.hid (IH.out y (by have := S81.size_mem hmem; have := HN.out; omega) A3 c3' wr (Kd.C_below hC3 HB.out) hl3 (by have := partsV_mem hmem; have := Hp.out; omega))
        have Hsz : Hid (w.heap.size + 2 ≤ wr.heap.size) := Lib.hid (blk_lt B2.out)
        have hn64 := Hn64.out
        clear hmem htk hC3 hl3
        go_upto_region 6 with (go_at_call 61; refine HY.out.mono ?_; rintro e w1 ⟨v, rfl, hv, hb⟩
                               obtain ⟨Aw, cw, rfl⟩ := Kd.R_slice hv.out)
        have HX2 : Hid ((w1.alloc (.cells #[.int .i64 y.f0, .int .i64 y.f1, .string y.f2, .slice Aw y.f3.length cw] 81)).heap[w1.heap.size]? = some (.cells #[.int .i64 y.f0, .int .i64 y.f1, .string y.f2, .slice Aw y.f3.length cw] 81 (0, 0))) := Lib.hid (blk_new w1 _)
        have HB2 : Hid (Below w1.heap.size w1 (w1.alloc (.cells #[.int .i64 y.f0, .int .i64 y.f1, .string y.f2, .slice Aw y.f3.length cw] 81))) := Lib.hid ((Below.refl _ _).alloc (Nat.le_refl _) _)
        generalize (w1.alloc (.cells #[.int .i64 y.f0, .int .i64 y.f1, .string y.f2, .slice Aw y.f3.length cw] 81)) = w2 at *
        have q0 : w2.cell? ⟨w1.heap.size, 0, none⟩ = some (.int .i64 y.f0) := blk_at HX2.out 0 rfl
        have q1 : w2.cell? ⟨w1.heap.size, 1, none⟩ = some (.int .i64 y.f1) := blk_at HX2.out 1 rfl
        have q2 : w2.cell? ⟨w1.heap.size, 2, none⟩ = some (.string y.f2) := blk_at HX2.out 2 rfl
        have q3 : w2.cell? ⟨w1.heap.size, 3, none⟩ = some (.slice Aw y.f3.length cw) := blk_at HX2.out 3 rfl
        have HV2 := Lib.hid (Kd.R_below hv.out HB2.out)
        have HBW : Hid (Below wr.heap.size wr w2) := Lib.hid (hb.out.trans (HB2.out.mono hb.out.size))
        have HO2 := Lib.hid (Kd.R_below HO.out HBW.out)
        have HLU := Lib.hid (Kd.R_lt HO.out)
        clear hv hb HX2 HB2
        go_wp2_with (at_builtin; refine Kd.R_append k81 (w0 := wr) (w.heap.size + 2) rfl (.tmp 19) (.tmp 21) 79 81 (.agg #[.int .i64 0, .int .i64 0, .string ⟨#[]⟩, .slice none 0 0]) 56 rfl Try.underlying79 info81 rfl (by decide) (by decide) (.slice Ao k co) (x.f3.take k) y _ (fun _ => True) (fun k_ => True ∧ some k_ ≠ (Value.slice Ao k co).ownBlock) rfl rfl ?hp (fun _ hk => hk) (fun _ _ => trivial) HO2.out ?hB ?hS ?hl ?_
                     case hp => exact k81_mkM _ _ _ y (Kd.R_lower (Kd.R_new' HV2.out HLU.out) Hsz.out)
                     case hB => exact HBW.out.mono Hsz.out
                     case hS => exact Nat.le_trans Hsz.out HBW.out.size
                     case hl => rw [List.length_take, ← Hn.out]; have := Hn64.out; omega
                     intro v1 w3 hO hB hg hat
                     have HO3 := Lib.hid hO
                     have HB3 := Lib.hid hB
                     clear hO hB hg hat)
        go_roundw
        case rel =>
          refine ⟨k + 1, by omega, by go_num, ?_, ?_, ?_, ?_⟩
          · rw [Htk.out]; exact HO3
          · exact Lib.hid (HB.out.trans (HB3.out.mono (by omega)))
          · exact Lib.hid ((HB3.out.block _ (by omega)).trans B1.out)
          · exact Lib.hid ((HB3.out.block _ (by omega)).trans B2.out)
        case measure => simp [intOf]; omega
      · have f3 : wr.frozen? ⟨w.heap.size, 3, none⟩ = false := blk_frozen B1.out 3
        have d0 : wr.cell? ⟨w.heap.size + 1, 0, none⟩ = some (.int .i64 0) := blk_at B2.out 0 rfl
        have g0 : wr.frozen? ⟨w.heap.size + 1, 0, none⟩ = false := blk_frozen B2.out 0
        have d1 : wr.cell? ⟨w.heap.size + 1, 1, none⟩ = some (.int .i64 0) := blk_at B2.out 1 rfl
        have g1 : wr.frozen? ⟨w.heap.size + 1, 1, none⟩ = false := blk_frozen B2.out 1
        have d2 : wr.cell? ⟨w.heap.size + 1, 2, none⟩ = some (.string ⟨#[]⟩) := blk_at B2.out 2 rfl
        have g2 : wr.frozen? ⟨w.heap.size + 1, 2, none⟩ = false := blk_frozen B2.out 2
        have d3 : wr.cell? ⟨w.heap.size + 1, 3, none⟩ = some (.slice none 0 0) := blk_at B2.out 3 rfl
        have g3 : wr.frozen? ⟨w.heap.size + 1, 3, none⟩ = false := blk_frozen B2.out 3
        go_wp2_with (fail)
        obtain rfl : k = n := by omega
        rw [List.take_of_length_le (by rw [Hn.out]; exact Nat.le_refl _)] at HO
        refine bodyPost_ret (results_cell_row rfl _ _ (w.heap.size + 1) 81 #[.int .i64 x.f0, .int .i64 x.f1, .string x.f2, .slice Ao k co] (0, 0) _ rfl ?_ Try.underlying81 rfl (by kernel_rfl)) rfl ⟨_, rfl, ?_, ?_⟩
        · exact blk_put (blk_put (blk_put (blk_put (blk_far B2.out (by simp) _) 0 _ rfl) 1 _ rfl) 2 _ rfl) 3 _ rfl
        · refine Lib.hid ?_
          refine Kd.R_lower (base := w.heap.size + 2) ?_ (Nat.le_add_right _ _)
          iterate 5 refine R_low ?_ (by simp only []; omega) _
          exact HO.out
        · refine Lib.hid ?_
          iterate 5 refine Below.setCell ?_ (by simp) _
          exact HB.out
set_option maxRecDepth 100000 in
set_option maxHeartbeats 4000000 in
theorem values59 (l : List S81) (A : Option Addr) (c : Nat) (w : World) (hC : Kd.C k81 w A l.length l) (hp : partsV l ≤ 100000) :
    Calls Try.prog 59 #[.slice A l.length c] w fun e w' => ∃ v, e = .returned v ∧ Hid (Kd.R k81 81 w' w.heap.size (fun _ => True) v l) ∧ Hid (Below w.heap.size w w') := by
  obtain ⟨n, hn⟩ : ∃ n, n = l.length := ⟨_, rfl⟩
  have HC := Lib.hid hC
  have Hp := Lib.hid hp
  have Hn := Lib.hid hn
  have hn64 : n ≤ 100000 := by have := partsV_len l; omega
  have Hn64 := Lib.hid hn64
  clear hC hp
  rw [← hn]
  clear hn
  go_enter Try.func59, Try.ntmps59
  go_wp2_with (fail)
  go_loopw [3, 4] (fun v3 v4 wr => ∃ k : Nat, k ≤ n ∧ v4 = .int .i64 k ∧ Hid (Kd.R k81 81 wr w.heap.size (fun _ => True) v3 (l.take k)) ∧ Hid (Below w.heap.size w wr)) (fun _ v4 _ => n - (intOf v4).toNat)
  case atStart => exact ⟨0, Nat.zero_le _, rfl, Lib.hid (Kd.R_nil _ _ _ _ _), Lib.hid (Below.refl _ _)⟩
  case round =>
    obtain ⟨k, hk, rfl, HO, HB⟩ := hrel
    have hkl : (l.take k).length = k := by rw [List.length_take, ← Hn.out]; omega
    obtain ⟨Ao, co, hv⟩ := Kd.R_slice HO.out
    rw [hkl] at hv
    subst hv
    clear hkl
    by_cases hlt : k < n
    · obtain ⟨ad, A3, c3, rfl, e0, e1, e2, e3, hl3, hC3⟩ := at_T81 HC.out (k : Int) (by omega) (by rw [← Hn.out]; omega)
      have hmem : rd_T81 l (k : Int) ∈ l := getD_mem _ _ _ (by rw [Int.toNat_natCast, ← Hn.out]; exact hlt)
      have htk : l.take (k + 1) = l.take k ++ [rd_T81 l (k : Int)] := take_getD _ _ _ (by rw [← Hn.out]; exact hlt)
      generalize rd_T81 l (k : Int) = y at *
      have Htk := Lib.hid htk
      rw [Int.toNat_natCast] at e0 e1 e2 e3
      replace e0 := pw_cell_below HB.out e0
      replace e1 := pw_cell_below HB.out e1
      replace e2 := pw_cell_below HB.out e2
      replace e3 := pw_cell_below HB.out e3
      have HY := Lib.hid (value61 _ y (Nat.le_refl _) A3 c3 wr (Kd.C_below hC3 HB.out) hl3 (by have := partsV_mem hmem; have := Hp.out; omega))
      have Hsz := Lib.hid (show w.heap.size ≤ wr.heap.size from HB.out.size)
      clear hmem htk hC3 hl3
      go_upto_region 6 with (go_at_call 61; refine HY.out.mono ?_; rintro e w1 ⟨v, rfl, hv, hb⟩
                             obtain ⟨Aw, cw, rfl⟩ := Kd.R_slice hv.out)
      have HX2 : Hid ((w1.alloc (.cells #[.int .i64 y.f0, .int .i64 y.f1, .string y.f2, .slice Aw y.f3.length cw] 81)).heap[w1.heap.size]? = some (.cells #[.int .i64 y.f0, .int .i64 y.f1, .string y.f2, .slice Aw y.f3.length cw] 81 (0, 0))) := Lib.hid (blk_new w1 _)
      have HB2 : Hid (Below w1.heap.size w1 (w1.alloc (.cells #[.int .i64 y.f0, .int .i64 y.f1, .string y.f2, .slice Aw y.f3.length cw] 81))) := Lib.hid ((Below.refl _ _).alloc (Nat.le_refl _) _)
      generalize (w1.alloc (.cells #[.int .i64 y.f0, .int .i64 y.f1, .string y.f2, .slice Aw y.f3.length cw] 81)) = w2 at *
      have q0 : w2.cell? ⟨w1.heap.size, 0, none⟩ = some (.int .i64 y.f0) := blk_at HX2.out 0 rfl
      have q1 : w2.cell? ⟨w1.heap.size, 1, none⟩ = some (.int .i64 y.f1) := blk_at HX2.out 1 rfl
      have q2 : w2.cell? ⟨w1.heap.size, 2, none⟩ = some (.string y.f2) := blk_at HX2.out 2 rfl
      have q3 : w2.cell? ⟨w1.heap.size, 3, none⟩ = some (.slice Aw y.f3.length cw) := blk_at HX2.out 3 rfl
      have HV2 := Lib.hid (Kd.R_below hv.out HB2.out)
      have HBW : Hid (Below wr.heap.size wr w2) := Lib.hid (hb.out.trans (HB2.out.mono hb.out.size))
      have HO2 := Lib.hid (Kd.R_below HO.out HBW.out)
      have HLU := Lib.hid (Kd.R_lt HO.out)
      clear hv hb HX2 HB2
      go_wp2_with (at_builtin; refine Kd.R_append k81 (w0 := wr) w.heap.size rfl (.tmp 17) (.tmp 19) 79 81 (.agg #[.int .i64 0, .int .i64 0, .string ⟨#[]⟩, .slice none 0 0]) 56 rfl Try.underlying79 info81 rfl (by decide) (by decide) (.slice Ao k co) (l.take k) y _ (fun _ => True) (fun k_ => True ∧ some k_ ≠ (Value.slice Ao k co).ownBlock) rfl rfl ?hp (fun _ hk => hk) (fun _ _ => trivial) HO2.out ?hB ?hS ?hl ?_
                   case hp => exact k81_mkM _ _ _ y (Kd.R_lower (Kd.R_new' HV2.out HLU.out) Hsz.out)
                   case hB => exact HBW.out.mono Hsz.out
                   case hS => exact Nat.le_trans Hsz.out HBW.out.size
                   case hl => rw [List.length_take, ← Hn.out]; have := Hn64.out; omega
                   intro v1 w3 hO hB hg hat
                   have HO3 := Lib.hid hO
                   have HB3 := Lib.hid hB
                   clear hO hB hg hat)
      go_roundw
      case rel =>
        refine ⟨k + 1, by omega, by go_num, ?_, ?_⟩
        · rw [Htk.out]; exact HO3
        · exact Lib.hid (HB.out.trans HB3.out)
      case measure => simp [intOf]; omega
    · go_wp2_with (fail)
      obtain rfl : k = n := by omega
      rw [List.take_of_length_le (by rw [Hn.out]; exact Nat.le_refl _)] at HO
      go_ret
      exact ⟨_, rfl, HO, HB⟩
set_option maxRecDepth 100000 in
set_option maxHeartbeats 4000000 in
theorem record60 (x : S83) (A4 : Option Addr) (c4 : Nat) (A5 : Option Addr) (c5 : Nat) (w : World) (hC4 : Kd.C k81 w A4 x.f1.f3.length x.f1.f3) (hc4 : x.f1.f3.length ≤ c4) (hC5 : Kd.C (Kd.int .i64) w A5 x.f2.length x.f2) (hc5 : x.f2.length ≤ c5) (hp : partsR x ≤ 100000) :
    Calls Try.prog 60 #[.agg #[.string x.f0, .int .i64 x.f1.f0, .int .i64 x.f1.f1, .string x.f1.f2, .slice A4 x.f1.f3.length c4, .slice A5 x.f2.length c5]] w fun e w' => ∃ v v', e = .returned (.agg #[.string x.f0, .int .i64 x.f1.f0, .int .i64 x.f1.f1, .string x.f1.f2, v, v']) ∧ Hid (Kd.R k81 81 w' w.heap.size (fun _ => True) v x.f1.f3) ∧ Hid (Kd.R (Kd.int .i64) 3 w' w.heap.size (fun _ => True) v' x.f2) ∧ Hid (Below w.heap.size w w') := by
  obtain ⟨n, hn⟩ : ∃ n, n = x.f2.length := ⟨_, rfl⟩
  have Hn := Lib.hid hn
  have HC4 := Lib.hid hC4
  have Hc4 := Lib.hid hc4
  have HC5 := Lib.hid hC5
  have hp4 : Hid (partsV x.f1.f3 ≤ 100000) := by unfold partsR at hp; show _ ≤ _; omega
  have hn64 : n ≤ 100000 := by unfold partsR at hp; omega
  have Hn64 := Lib.hid hn64
  clear hC4 hc4 hC5 hc5 hp
  rw [← hn]
  clear hn
  go_enter Try.func60, Try.ntmps60
  go_wp2_with (fail)
  go_loopw [3, 4] (fun v3 v4 wr => ∃ k : Nat, k ≤ n ∧ v4 = .int .i64 k ∧ Hid (Kd.R (Kd.int .i64) 3 wr (w.heap.size + 2) (fun _ => True) v3 (x.f2.take k)) ∧ Hid (Below w.heap.size w wr) ∧ Hid (wr.heap[w.heap.size]? = some (.cells #[.string x.f0, .int .i64 x.f1.f0, .int .i64 x.f1.f1, .string x.f1.f2, .slice A4 x.f1.f3.length c4, .slice A5 n c5] 83 (0, 0))) ∧ Hid (wr.heap[w.heap.size + 1]? = some (.cells #[.string ⟨#[]⟩, .int .i64 0, .int .i64 0, .string ⟨#[]⟩, .slice none 0 0, .slice none 0 0] 83 (0, 0)))) (fun _ v4 _ => n - (intOf v4).toNat)
  case atStart =>
    refine ⟨0, Nat.zero_le _, rfl, Lib.hid (Kd.R_nil _ _ _ _ _), Lib.hid ?_, Lib.hid ?_, Lib.hid ?_⟩
    · exact ((Below.refl _ _).alloc (Nat.le_refl _) _).alloc (by simp) _
    · exact blk_alloc (blk_new w _) _
    · have := blk_new (w.alloc (.cells #[.string x.f0, .int .i64 x.f1.f0, .int .i64 x.f1.f1, .string x.f1.f2, .slice A4 x.f1.f3.length c4, .slice A5 n c5] 83)) (.cells #[.string ⟨#[]⟩, .int .i64 0, .int .i64 0, .string ⟨#[]⟩, .slice none 0 0, .slice none 0 0] 83)
      simp only [World.size_alloc] at this
      exact this
  case round =>
    obtain ⟨k, hk, rfl, HO, HB, B1, B2⟩ := hrel
    have a0 : wr.cell? ⟨w.heap.size, 0, none⟩ = some (.string x.f0) := blk_at B1.out 0 rfl
    have f0 : wr.frozen? ⟨w.heap.size, 0, none⟩ = false := blk_frozen B1.out 0
    have a1 : wr.cell? ⟨w.heap.size, 1, none⟩ = some (.int .i64 x.f1.f0) := blk_at B1.out 1 rfl
    have f1 : wr.frozen? ⟨w.heap.size, 1, none⟩ = false := blk_frozen B1.out 1
    have a2 : wr.cell? ⟨w.heap.size, 2, none⟩ = some (.int .i64 x.f1.f1) := blk_at B1.out 2 rfl
    have f2 : wr.frozen? ⟨w.heap.size, 2, none⟩ = false := blk_frozen B1.out 2
    have a3 : wr.cell? ⟨w.heap.size, 3, none⟩ = some (.string x.f1.f2) := blk_at B1.out 3 rfl
    have f3 : wr.frozen? ⟨w.heap.size, 3, none⟩ = false := blk_frozen B1.out 3
    have a4 : wr.cell? ⟨w.heap.size, 4, none⟩ = some (.slice A4 x.f1.f3.length c4) := blk_at B1.out 4 rfl
    have f4 : wr.frozen? ⟨w.heap.size, 4, none⟩ = false := blk_frozen B1.out 4
    have a5 : wr.cell? ⟨w.heap.size, 5, none⟩ = some (.slice A5 n c5) := blk_at B1.out 5 rfl
    have f5 : wr.frozen? ⟨w.heap.size, 5, none⟩ = false := blk_frozen B1.out 5
    have hkl : (x.f2.take k).length = k := by rw [List.length_take, ← Hn.out]; omega
    obtain ⟨Ao, co, hv⟩ := Kd.R_slice HO.out
    rw [hkl] at hv
    subst hv
    clear hkl
    by_cases hlt : k < n
    · obtain ⟨ad, rfl, hcell⟩ := at_Int HC5.out k (by rw [← Hn.out]; exact hlt)
      have e0 := pw_cell_below HB.out hcell
      have htk : x.f2.take (k + 1) = x.f2.take k ++ [x.f2.getD k 0] := take_getD _ _ _ (by rw [← Hn.out]; exact hlt)
      generalize x.f2.getD k 0 = y at *
      have Htk := Lib.hid htk
      have Hsz : Hid (w.heap.size + 2 ≤ wr.heap.size) := Lib.hid (blk_lt B2.out)
      clear hcell htk f0 f1 f2 f3 f4 f5
      go_wp2_with (at_builtin; refine Kd.R_append (Kd.int .i64) (w0 := wr) (w.heap.size + 2) rfl (.tmp 12) (.tmp 18) 23 3 (.int .i64 0) 8 rfl Try.underlying23 info3 rfl (by decide) (by decide) (.slice Ao k co) (x.f2.take k) y _ (fun _ => True) (fun k_ => True ∧ some k_ ≠ (Value.slice Ao k co).ownBlock) rfl rfl rfl (fun _ hk => hk) (fun _ _ => trivial) HO.out (Below.refl _ _) Hsz.out ?hl ?_
                   case hl => rw [List.length_take, ← Hn.out]; have := Hn64.out; omega
                   intro v1 w3 hO hB hg hat
                   have HO3 := Lib.hid hO
                   have HB3 := Lib.hid hB
                   clear hO hB hg hat)
      go_roundw
      case rel =>
        refine ⟨k + 1, by omega, by go_num, ?_, ?_, ?_, ?_⟩
        · rw [Htk.out]; exact HO3
        · exact Lib.hid (HB.out.trans (HB3.out.mono (by have := Hsz.out; omega)))
        · exact Lib.hid ((HB3.out.block _ (by omega)).trans B1.out)
        · exact Lib.hid ((HB3.out.block _ (by omega)).trans B2.out)
      case measure => simp [intOf]; omega
    · obtain rfl : k = n := by omega
      rw [List.take_of_length_le (by rw [Hn.out]; exact Nat.le_refl _)] at HO
      have Hsz : Hid (w.heap.size + 2 ≤ wr.heap.size) := Lib.hid (blk_lt B2.out)
      go_upto_region 7 with (fail)
      have D1 : Hid ((wr.setCell ⟨w.heap.size, 5, none⟩ (.slice Ao k co)).heap[w.heap.size]? = some (.cells #[.string x.f0, .int .i64 x.f1.f0, .int .i64 x.f1.f1, .string x.f1.f2, .slice A4 x.f1.f3.length c4, .slice Ao k co] 83 (0, 0))) := Lib.hid (blk_put B1.out 5 _ rfl)
      have D2 : Hid ((wr.setCell ⟨w.heap.size, 5, none⟩ (.slice Ao k co)).heap[w.heap.size + 1]? = some (.cells #[.string ⟨#[]⟩, .int .i64 0, .int .i64 0, .string ⟨#[]⟩, .slice none 0 0, .slice none 0 0] 83 (0, 0))) := Lib.hid (blk_far B2.out (by simp) _)
      have HO1 := Lib.hid (R_low HO.out (p := ⟨w.heap.size, 5, none⟩) (by simp only []; omega) (.slice Ao k co))
      have HB1 : Hid (Below w.heap.size w (wr.setCell ⟨w.heap.size, 5, none⟩ (.slice Ao k co))) := Lib.hid (HB.out.setCell (Nat.le_refl _) _)
      have Hs1 : Hid (w.heap.size + 2 ≤ (wr.setCell ⟨w.heap.size, 5, none⟩ (.slice Ao k co)).heap.size) := Lib.hid (by simp only [World.size_setCell]; exact Hsz.out)
      clear a0 a1 a2 a3 a4 a5 f0 f1 f2 f3 f4 f5 HO HB B1 B2 Hsz
      generalize wr.setCell ⟨w.heap.size, 5, none⟩ (.slice Ao k co) = w2 at *
      have q0 : w2.cell? ⟨w.heap.size, 0, none⟩ = some (.string x.f0) := blk_at D1.out 0 rfl
      have q1 : w2.cell? ⟨w.heap.size, 1, none⟩ = some (.int .i64 x.f1.f0) := blk_at D1.out 1 rfl
      have q2 : w2.cell? ⟨w.heap.size, 2, none⟩ = some (.int .i64 x.f1.f1) := blk_at D1.out 2 rfl
      have q3 : w2.cell? ⟨w.heap.size, 3, none⟩ = some (.string x.f1.f2) := blk_at D1.out 3 rfl
      have q4 : w2.cell? ⟨w.heap.size, 4, none⟩ = some (.slice A4 x.f1.f3.length c4) := blk_at D1.out 4 rfl
      have q5 : w2.cell? ⟨w.heap.size, 5, none⟩ = some (.slice Ao k co) := blk_at D1.out 5 rfl
      go_upto_region 8 with (go_at_call 61; refine (value61 _ x.f1 (Nat.le_refl _) A4 c4 _ (Kd.C_below HC4.out HB1.out) Hc4.out hp4.out).mono ?_
                             rintro e w3 ⟨v, rfl, hv, hb⟩
                             obtain ⟨Av, cv, rfl⟩ := Kd.R_slice hv.out
                             have E1 := Lib.hid (blk_below D1.out hb.out)
                             have E2 := Lib.hid (blk_below D2.out hb.out)
                             have d0 : w3.cell? ⟨w.heap.size, 0, none⟩ = some (.string x.f0) := blk_at E1.out 0 rfl
                             have g0 : w3.frozen? ⟨w.heap.size, 0, none⟩ = false := blk_frozen E1.out 0
                             have d1 : w3.cell? ⟨w.heap.size, 1, none⟩ = some (.int .i64 x.f1.f0) := blk_at E1.out 1 rfl
                             have g1 : w3.frozen? ⟨w.heap.size, 1, none⟩ = false := blk_frozen E1.out 1
                             have d2 : w3.cell? ⟨w.heap.size, 2, none⟩ = some (.int .i64 x.f1.f1) := blk_at E1.out 2 rfl
                             have g2 : w3.frozen? ⟨w.heap.size, 2, none⟩ = false := blk_frozen E1.out 2
                             have d3 : w3.cell? ⟨w.heap.size, 3, none⟩ = some (.string x.f1.f2) := blk_at E1.out 3 rfl
                             have g3 : w3.frozen? ⟨w.heap.size, 3, none⟩ = false := blk_frozen E1.out 3
                             have d4 : w3.cell? ⟨w.heap.size, 4, none⟩ = some (.slice A4 x.f1.f3.length c4) := blk_at E1.out 4 rfl
                             have g4 : w3.frozen? ⟨w.heap.size, 4, none⟩ = false := blk_frozen E1.out 4
                             have d5 : w3.cell? ⟨w.heap.size, 5, none⟩ = some (.slice Ao k co) := blk_at E1.out 5 rfl
                             have g5 : w3.frozen? ⟨w.heap.size, 5, none⟩ = false := blk_frozen E1.out 5
)
      have HV3 := Lib.hid (Kd.R_lower hv.out Hs1.out)
      have HO3 := Lib.hid (Kd.R_below HO1.out hb.out)
      have HB3 := Lib.hid (HB1.out.trans (hb.out.mono HB1.out.size))
      clear hv hb q0 q1 q2 q3 q4 q5
      have W3 := Lib.hid (blk_put (blk_put (blk_put (blk_put E1.out 1 (.int .i64 x.f1.f0) rfl) 2 (.int .i64 x.f1.f1) rfl) 3 (.string x.f1.f2) rfl) 4 (.slice Av x.f1.f3.length cv) rfl)
      have W4 := Lib.hid (blk_far (blk_far (blk_far (blk_far E2.out (p := ⟨w.heap.size, 1, none⟩) (by simp) (.int .i64 x.f1.f0)) (p := ⟨w.heap.size, 2, none⟩) (by simp) (.int .i64 x.f1.f1)) (p := ⟨w.heap.size, 3, none⟩) (by simp) (.string x.f1.f2)) (p := ⟨w.heap.size, 4, none⟩) (by simp) (.slice Av x.f1.f3.length cv))
      have HV4 : Hid (Kd.R k81 81 ((((w3.setCell ⟨w.heap.size, 1, none⟩ (.int .i64 x.f1.f0)).setCell ⟨w.heap.size, 2, none⟩ (.int .i64 x.f1.f1)).setCell ⟨w.heap.size, 3, none⟩ (.string x.f1.f2)).setCell ⟨w.heap.size, 4, none⟩ (.slice Av x.f1.f3.length cv)) (w.heap.size + 2) (fun _ => True) (.slice Av x.f1.f3.length cv) x.f1.f3) := by
        iterate 4 refine R_low ?_ (by simp only []; omega) _
        exact HV3.out
      have HO4 : Hid (Kd.R (Kd.int .i64) 3 ((((w3.setCell ⟨w.heap.size, 1, none⟩ (.int .i64 x.f1.f0)).setCell ⟨w.heap.size, 2, none⟩ (.int .i64 x.f1.f1)).setCell ⟨w.heap.size, 3, none⟩ (.string x.f1.f2)).setCell ⟨w.heap.size, 4, none⟩ (.slice Av x.f1.f3.length cv)) (w.heap.size + 2) (fun _ => True) (.slice Ao k co) x.f2) := by
        iterate 4 refine R_low ?_ (by simp only []; omega) _
        exact HO3.out
      have HB4 : Hid (Below w.heap.size w ((((w3.setCell ⟨w.heap.size, 1, none⟩ (.int .i64 x.f1.f0)).setCell ⟨w.heap.size, 2, none⟩ (.int .i64 x.f1.f1)).setCell ⟨w.heap.size, 3, none⟩ (.string x.f1.f2)).setCell ⟨w.heap.size, 4, none⟩ (.slice Av x.f1.f3.length cv))) := by
        iterate 4 refine Below.setCell ?_ (by simp) _
        exact HB3.out
      clear d0 d1 d2 d3 d4 d5 g0 g1 g2 g3 g4 g5 E1 E2 HV3 HO3 HB3
      generalize ((((w3.setCell ⟨w.heap.size, 1, none⟩ (.int .i64 x.f1.f0)).setCell ⟨w.heap.size, 2, none⟩ (.int .i64 x.f1.f1)).setCell ⟨w.heap.size, 3, none⟩ (.string x.f1.f2)).setCell ⟨w.heap.size, 4, none⟩ (.slice Av x.f1.f3.length cv)) = w4 at *
      have p0 : w4.cell? ⟨w.heap.size, 0, none⟩ = some (.string x.f0) := blk_at W3.out 0 rfl
      have p1 : w4.cell? ⟨w.heap.size, 1, none⟩ = some (.int .i64 x.f1.f0) := blk_at W3.out 1 rfl
      have p2 : w4.cell? ⟨w.heap.size, 2, none⟩ = some (.int .i64 x.f1.f1) := blk_at W3.out 2 rfl
      have p3 : w4.cell? ⟨w.heap.size, 3, none⟩ = some (.string x.f1.f2) := blk_at W3.out 3 rfl
      have p4 : w4.cell? ⟨w.heap.size, 4, none⟩ = some (.slice Av x.f1.f3.length cv) := blk_at W3.out 4 rfl
      have p5 : w4.cell? ⟨w.heap.size, 5, none⟩ = some (.slice Ao k co) := blk_at W3.out 5 rfl
      have r0 : w4.cell? ⟨w.heap.size + 1, 0, none⟩ = some (.string ⟨#[]⟩) := blk_at W4.out 0 rfl
      have s0 : w4.frozen? ⟨w.heap.size + 1, 0, none⟩ = false := blk_frozen W4.out 0
      have r1 : w4.cell? ⟨w.heap.size + 1, 1, none⟩ = some (.int .i64 0) := blk_at W4.out 1 rfl
      have s1 : w4.frozen? ⟨w.heap.size + 1, 1, none⟩ = false := blk_frozen W4.out 1
      have r2 : w4.cell? ⟨w.heap.size + 1, 2, none⟩ = some (.int .i64 0) := blk_at W4.out 2 rfl
      have s2 : w4.frozen? ⟨w.heap.size + 1, 2, none⟩ = false := blk_frozen W4.out 2
      have r3 : w4.cell? ⟨w.heap.size + 1, 3, none⟩ = some (.string ⟨#[]⟩) := blk_at W4.out 3 rfl
      have s3 : w4.frozen? ⟨w.heap.size + 1, 3, none⟩ = false := blk_frozen W4.out 3
      have r4 : w4.cell? ⟨w.heap.size + 1, 4, none⟩ = some (.slice none 0 0) := blk_at W4.out 4 rfl
      have s4 : w4.frozen? ⟨w.heap.size + 1, 4, none⟩ = false := blk_frozen W4.out 4
      have r5 : w4.cell? ⟨w.heap.size + 1, 5, none⟩ = some (.slice none 0 0) := blk_at W4.out 5 rfl
      have s5 : w4.frozen? ⟨w.heap.size + 1, 5, none⟩ = false := blk_frozen W4.out 5
      go_wp2_with (fail)
      refine bodyPost_ret (results_cell_row rfl _ _ (w.heap.size + 1) 83 #[.string x.f0, .int .i64 x.f1.f0, .int .i64 x.f1.f1, .string x.f1.f2, .slice Av x.f1.f3.length cv, .slice Ao k co] (0, 0) _ rfl ?_ Try.underlying83 rfl (by kernel_rfl)) rfl ⟨_, _, rfl, ?_, ?_, ?_⟩
      · exact blk_put (blk_put (blk_put (blk_put (blk_put (blk_put W4.out 0 _ rfl) 1 _ rfl) 2 _ rfl) 3 _ rfl) 4 _ rfl) 5 _ rfl
      · refine Lib.hid (Kd.R_lower (base := w.heap.size + 2) ?_ (Nat.le_add_right _ _))
        iterate 6 refine R_low ?_ (by simp only []; omega) _
        exact HV4.out
      · refine Lib.hid (Kd.R_lower (base := w.heap.size + 2) ?_ (Nat.le_add_right _ _))
        iterate 6 refine R_low ?_ (by simp only []; omega) _
        exact HO4.out
      · refine Lib.hid ?_
        iterate 6 refine Below.setCell ?_ (by simp) _
        exact HB4.out
set_option maxRecDepth 100000 in
set_option maxHeartbeats 4000000 in
theorem records53 (l : List S83) (A : Option Addr) (c : Nat) (w : World) (hC : Kd.C k83 w A l.length l) (hp : partsRs l ≤ 100000) :
    Calls Try.prog 53 #[.slice A l.length c] w fun e w' => ∃ v, e = .returned v ∧ Hid (Kd.R k83 83 w' w.heap.size (fun _ => True) v l) ∧ Hid (Below w.heap.size w w') := by
  obtain ⟨n, hn⟩ : ∃ n, n = l.length := ⟨_, rfl⟩
  have HC := Lib.hid hC
  have Hp := Lib.hid hp
  have Hn := Lib.hid hn
  have hn64 : n ≤ 100000 := by have := partsRs_len l; omega
  have Hn64 := Lib.hid hn64
  clear hC hp
  rw [← hn]
  clear hn
  go_enter Try.func53, Try.ntmps53
  go_wp2_with (fail)
  go_loopw [3, 4] (fun v3 v4 wr => ∃ k : Nat, k ≤ n ∧ v4 = .int .i64 k ∧ Hid (Kd.R k83 83 wr w.heap.size (fun _ => True) v3 (l.take k)) ∧ Hid (Below w.heap.size w wr)) (fun _ v4 _ => n - (intOf v4).toNat)
  case atStart => exact ⟨0, Nat.zero_le _, rfl, Lib.hid (Kd.R_nil _ _ _ _ _), Lib.hid (Below.refl _ _)⟩
  case round =>
    obtain ⟨k, hk, rfl, HO, HB⟩ := hrel
    have hkl : (l.take k).length = k := by rw [List.length_take, ← Hn.out]; omega
    obtain ⟨Ao, co, hv⟩ := Kd.R_slice HO.out
    rw [hkl] at hv
    subst hv
    clear hkl
    by_cases hlt : k < n
    · obtain ⟨ad, A4, c4, A5, c5, rfl, e0, e1, e2, e3, e4, e5, hl4, hC4, hl5, hC5⟩ := at_T83 HC.out (k : Int) (by omega) (by rw [← Hn.out]; omega)
      have hmem : rd_T83 l (k : Int) ∈ l := getD_mem _ _ _ (by rw [Int.toNat_natCast, ← Hn.out]; exact hlt)
      have htk : l.take (k + 1) = l.take k ++ [rd_T83 l (k : Int)] := take_getD _ _ _ (by rw [← Hn.out]; exact hlt)
      generalize rd_T83 l (k : Int) = y at *
      have Htk := Lib.hid htk
      rw [Int.toNat_natCast] at e0 e1 e2 e3 e4 e5
      replace e0 := pw_cell_below HB.out e0
      replace e1 := pw_cell_below HB.out e1
      replace e2 := pw_cell_below HB.out e2
      replace e3 := pw_cell_below HB.out e3
      replace e4 := pw_cell_below HB.out e4
      replace e5 := pw_cell_below HB.out e5
      have HY := Lib.hid (record60 y A4 c4 A5 c5 wr (Kd.C_below hC4 HB.out) hl4 (Kd.C_below hC5 HB.out) hl5 (Nat.le_trans (partsRs_mem hmem) Hp.out))
      have Hsz := Lib.hid (show w.heap.size ≤ wr.heap.size from HB.out.size)
      clear hmem htk hC4 hl4 hC5 hl5
      go_upto_region 6 with (go_at_call 60; refine HY.out.mono ?_; rintro e w1 ⟨v, v', rfl, hv, hv', hb⟩
                             obtain ⟨Aw, cw, rfl⟩ := Kd.R_slice hv.out
                             obtain ⟨Ax, cx, rfl⟩ := Kd.R_slice hv'.out)
      have HX2 : Hid ((w1.alloc (.cells #[.string y.f0, .int .i64 y.f1.f0, .int .i64 y.f1.f1, .string y.f1.f2, .slice Aw y.f1.f3.length cw, .slice Ax y.f2.length cx] 83)).heap[w1.heap.size]? = some (.cells #[.string y.f0, .int .i64 y.f1.f0, .int .i64 y.f1.f1, .string y.f1.f2, .slice Aw y.f1.f3.length cw, .slice Ax y.f2.length cx] 83 (0, 0))) := Lib.hid (blk_new w1 _)
      have HB2 : Hid (Below w1.heap.size w1 (w1.alloc (.cells #[.string y.f0, .int .i64 y.f1.f0, .int .i64 y.f1.f1, .string y.f1.f2, .slice Aw y.f1.f3.length cw, .slice Ax y.f2.length cx] 83))) := Lib.hid ((Below.refl _ _).alloc (Nat.le_refl _) _)
      generalize (w1.alloc (.cells #[.string y.f0, .int .i64 y.f1.f0, .int .i64 y.f1.f1, .string y.f1.f2, .slice Aw y.f1.f3.length cw, .slice Ax y.f2.length cx] 83)) = w2 at *
      have q0 : w2.cell? ⟨w1.heap.size, 0, none⟩ = some (.string y.f0) := blk_at HX2.out 0 rfl
      have q1 : w2.cell? ⟨w1.heap.size, 1, none⟩ = some (.int .i64 y.f1.f0) := blk_at HX2.out 1 rfl
      have q2 : w2.cell? ⟨w1.heap.size, 2, none⟩ = some (.int .i64 y.f1.f1) := blk_at HX2.out 2 rfl
      have q3 : w2.cell? ⟨w1.heap.size, 3, none⟩ = some (.string y.f1.f2) := blk_at HX2.out 3 rfl
      have q4 : w2.cell? ⟨w1.heap.size, 4, none⟩ = some (.slice Aw y.f1.f3.length cw) := blk_at HX2.out 4 rfl
      have q5 : w2.cell? ⟨w1.heap.size, 5, none⟩ = some (.slice Ax y.f2.length cx) := blk_at HX2.out 5 rfl
      have HV2 := Lib.hid (Kd.R_below hv.out HB2.out)
      have HV2' := Lib.hid (Kd.R_below hv'.out HB2.out)
      have HBW : Hid (Below wr.heap.size wr w2) := Lib.hid (hb.out.trans (HB2.out.mono hb.out.size))
      have HO2 := Lib.hid (Kd.R_below HO.out HBW.out)
      have HLU := Lib.hid (Kd.R_lt HO.out)
      clear hv hv' hb HX2 HB2
      go_wp2_with (at_builtin; refine Kd.R_append k83 (w0 := wr) w.heap.size rfl (.tmp 17) (.tmp 19) 38 83 (.agg #[.string ⟨#[]⟩, .int .i64 0, .int .i64 0, .string ⟨#[]⟩, .slice none 0 0, .slice none 0 0]) 96 rfl Try.underlying38 info83 rfl (by decide) (by decide) (.slice Ao k co) (l.take k) y _ (fun _ => True) (fun k_ => True ∧ some k_ ≠ (Value.slice Ao k co).ownBlock) rfl rfl ?hp (fun _ hk => hk) (fun _ _ => trivial) HO2.out ?hB ?hS ?hl ?_
                   case hp => exact k83_mkM _ _ _ y (Kd.R_lower (Kd.R_new' HV2.out HLU.out) Hsz.out) (Kd.R_lower (Kd.R_new' HV2'.out HLU.out) Hsz.out)
                   case hB => exact HBW.out.mono Hsz.out
                   case hS => exact Nat.le_trans Hsz.out HBW.out.size
                   case hl => rw [List.length_take, ← Hn.out]; have := Hn64.out; omega
                   intro v1 w3 hO hB hg hat
                   have HO3 := Lib.hid hO
                   have HB3 := Lib.hid hB
                   clear hO hB hg hat)
      go_roundw
      case rel =>
        refine ⟨k + 1, by omega, by go_num, ?_, ?_⟩
        · rw [Htk.out]; exact HO3
        · exact Lib.hid (HB.out.trans HB3.out)
      case measure => simp [intOf]; omega
    · go_wp2_with (fail)
      obtain rfl : k = n := by omega
      rw [List.take_of_length_le (by rw [Hn.out]; exact Nat.le_refl _)] at HO
      go_ret
      exact ⟨_, rfl, HO, HB⟩
end Go.Proofs.Ytcbaiplamaopeaa.PPostShots
