/- values, Clone of whole numbers, records: copies in new memory. -/
import Derived.Test.YtcbaiplamaopeaaPE
import Derived.Lib.LazyBuf
namespace Go.Proofs.Ytcbaiplamaopeaa.PPostShots
open Go.RowKit Go.Conc Go.Proofs.YtcbaiplamaopeaaW.PrintWords Go.Proofs.YtcbaiplamaopeaaW.PrintLast Go.Proofs.Ytcbaiplamaopeaa.PPost
set_option linter.unusedVariables false
set_option linter.unusedSimpArgs false

/-- How many parts lists of records, a part have. -/
def partsLs (l : List (List S83)) : Nat := l.length + (l.map partsRs).sum
def partsP (x : S40) : Nat := partsC x.f0.f1 + partsLs x.f1 + partsRs x.f2
theorem partsLs_mem {l : List (List S83)} {y : List S83} (h : y ∈ l) : partsRs y ≤ partsLs l := by
  have := le_sum_of_mem (List.mem_map_of_mem (f := partsRs) h)
  unfold partsLs
  omega
set_option maxRecDepth 100000 in
set_option maxHeartbeats 4000000 in
theorem values46' : ∀ (N : Nat) (l : List S81), SizeOf.sizeOf l ≤ N → ∀ (A : Option Addr) (c : Nat) (w : World), Kd.C k81 w A l.length l → partsV l ≤ 100000 →
    Calls Try.prog 46 #[.slice A l.length c] w fun e w' => ∃ v, e = .returned v ∧ Hid (Kd.R k81 81 w' w.heap.size (fun _ => True) v l) ∧ Hid (Below w.heap.size w w') := by
  intro N
  induction N with
  | zero => intro l h; cases l <;> simp at h
  | succ N ih =>
    intro l hN A c w hC hp
    obtain ⟨n, hn⟩ : ∃ n, n = l.length := ⟨_, rfl⟩
    have HC := Lib.hid hC
    have Hp := Lib.hid hp
    have Hn := Lib.hid hn
    have IH := Lib.hid ih
    have HN := Lib.hid hN
    have hn64 : n ≤ 100000 := by have := partsV_len l; omega
    have Hn64 := Lib.hid hn64
    clear hC hp ih hN
    rw [← hn]
    clear hn
    go_enter Try.func46, Try.ntmps46
    go_wp2_with (fail)
    go_loopw [3, 8] (fun v3 v8 wr => ∃ k : Nat, k ≤ n ∧ v8 = .int .i64 k ∧ Hid (Kd.R k81 81 wr w.heap.size (fun _ => True) v3 (l.take k)) ∧ Hid (Below w.heap.size w wr)) (fun _ v8 _ => n - (intOf v8).toNat)
    case atStart => exact ⟨0, Nat.zero_le _, rfl, Lib.hid (Kd.R_nil _ _ _ _ _), Lib.hid (Below.refl _ _)⟩
    case round =>
      obtain ⟨k, hk, rfl, HO, HB⟩ := hrel
      have hkl : (l.take k).length = k := by rw [List.length_take, ← Hn.out]; omega
      obtain ⟨Au, cu, hv⟩ := Kd.R_slice HO.out
      rw [hkl] at hv
      subst hv
      clear hkl
      by_cases hlt : k < n
      · obtain ⟨ad, A3, c3, rfl, e0, e1, e2, e3, hl3, hC3⟩ := at_T81 HC.out (k : Int) (by omega) (by rw [← Hn.out]; omega)
        have hmem : rd_T81 l (k : Int) ∈ l := getD_mem _ _ _ (by rw [Int.toNat_natCast, ← Hn.out]; exact hlt)
        have htk : l.take (k + 1) = l.take k ++ [rd_T81 l (k : Int)] := take_getD _ _ _ (by rw [← Hn.out]; exact hlt)
        generalize rd_T81 l (k : Int) = y at *
        have Htk := Lib.hid htk
        rw [Int.toNat_natCast] at e0 e1 e2 e3
        replace e0 := pw_cell_below HB.out e0
        replace e1 := pw_cell_below HB.out e1
        replace e2 := pw_cell_below HB.out e2
        replace e3 := pw_cell_below HB.out e3
        have HX := Lib.hid (blk_new wr (.cells #[.int .i64 y.f0, .int .i64 y.f1, .string y.f2, .slice A3 y.f3.length c3] 81))
        have HBa : Hid (Below wr.heap.size wr (wr.alloc (.cells #[.int .i64 y.f0, .int .i64 y.f1, .string y.f2, .slice A3 y.f3.length c3] 81))) := Lib.hid ((Below.refl _ _).alloc (Nat.le_refl _) _)
        have HSa : Hid ((wr.alloc (.cells #[.int .i64 y.f0, .int .i64 y.f1, .string y.f2, .slice A3 y.f3.length c3] 81)).heap.size = wr.heap.size + 1) := Lib.hid (World.size_alloc _ _)
        have HY := Lib.hid (IH.out y.f3 (by have := List.sizeOf_lt_of_mem hmem; have := HN.out; cases y; simp at *; omega) A3 c3 (wr.alloc (.cells #[.int .i64 y.f0, .int .i64 y.f1, .string y.f2, .slice A3 y.f3.length c3] 81)) (Kd.C_below hC3 (HB.out.trans (HBa.out.mono HB.out.size))) (by have := partsV_mem hmem; have := Hp.out; omega))
        have Hsz := Lib.hid (show w.heap.size ≤ wr.heap.size from HB.out.size)
        clear hmem htk hC3 hl3
        go_upto_region 5 with (fail)
        clear e0 e1 e2 e3
        generalize (wr.alloc (.cells #[.int .i64 y.f0, .int .i64 y.f1, .string y.f2, .slice A3 y.f3.length c3] 81)) = wa at *
        have q0 : wa.cell? ⟨wr.heap.size, 0, none⟩ = some (.int .i64 y.f0) := blk_at HX.out 0 rfl
        have f0 : wa.frozen? ⟨wr.heap.size, 0, none⟩ = false := blk_frozen HX.out 0
        have q1 : wa.cell? ⟨wr.heap.size, 1, none⟩ = some (.int .i64 y.f1) := blk_at HX.out 1 rfl
        have f1 : wa.frozen? ⟨wr.heap.size, 1, none⟩ = false := blk_frozen HX.out 1
        have q2 : wa.cell? ⟨wr.heap.size, 2, none⟩ = some (.string y.f2) := blk_at HX.out 2 rfl
        have f2 : wa.frozen? ⟨wr.heap.size, 2, none⟩ = false := blk_frozen HX.out 2
        have q3 : wa.cell? ⟨wr.heap.size, 3, none⟩ = some (.slice A3 y.f3.length c3) := blk_at HX.out 3 rfl
        have f3 : wa.frozen? ⟨wr.heap.size, 3, none⟩ = false := blk_frozen HX.out 3
        go_upto_region 6 with (go_at_call 46; refine HY.out.mono ?_; rintro e w1 ⟨v, rfl, hv, hb⟩
                               obtain ⟨Av, cv, rfl⟩ := Kd.R_slice hv.out
                               have HX1 := Lib.hid (blk_below HX.out hb.out)
                               have g3 : w1.frozen? ⟨wr.heap.size, 3, none⟩ = false := blk_frozen HX1.out 3
                               have d3 : w1.cell? ⟨wr.heap.size, 3, none⟩ = some (.slice A3 y.f3.length c3) := blk_at HX1.out 3 rfl
                               have HV1 := Lib.hid hv.out
                               have HB1 := Lib.hid (HBa.out.trans (hb.out.mono HBa.out.size))
                               have HS1 := Lib.hid hb.out.size
                               clear hb hv)
        have HX2 : Hid ((w1.setCell ⟨wr.heap.size, 3, none⟩ (.slice Av y.f3.length cv)).heap[wr.heap.size]? = some (.cells #[.int .i64 y.f0, .int .i64 y.f1, .string y.f2, .slice Av y.f3.length cv] 81 (0, 0))) := Lib.hid (blk_put HX1.out 3 _ rfl)
        have HV2 := Lib.hid (R_low HV1.out (p := ⟨wr.heap.size, 3, none⟩) (by rw [HSa.out]; exact Nat.lt_succ_self _) (.slice Av y.f3.length cv))
        have HB2 : Hid (Below wr.heap.size wr (w1.setCell ⟨wr.heap.size, 3, none⟩ (.slice Av y.f3.length cv))) := Lib.hid (HB1.out.setCell (Nat.le_refl _) _)
        have HO2 := Lib.hid (Kd.R_below HO.out HB2.out)
        have HT2 := Lib.hid (HB.out.trans (HB2.out.mono HB.out.size))
        have HLU := Lib.hid (Kd.R_lt HO.out)
        clear HX1 HV1 HB1 HS1 g3 d3 q0 q1 q2 q3 f0 f1 f2 f3 HX
        generalize w1.setCell ⟨wr.heap.size, 3, none⟩ (.slice Av y.f3.length cv) = w2 at *
        have q0 : w2.cell? ⟨wr.heap.size, 0, none⟩ = some (.int .i64 y.f0) := blk_at HX2.out 0 rfl
        have q1 : w2.cell? ⟨wr.heap.size, 1, none⟩ = some (.int .i64 y.f1) := blk_at HX2.out 1 rfl
        have q2 : w2.cell? ⟨wr.heap.size, 2, none⟩ = some (.string y.f2) := blk_at HX2.out 2 rfl
        have q3 : w2.cell? ⟨wr.heap.size, 3, none⟩ = some (.slice Av y.f3.length cv) := blk_at HX2.out 3 rfl
        go_wp2_with (at_builtin; refine Kd.R_append k81 (w0 := w) w.heap.size rfl (.tmp 16) (.tmp 18) 79 81 (.agg #[.int .i64 0, .int .i64 0, .string ⟨#[]⟩, .slice none 0 0]) 56 rfl Try.underlying79 info81 rfl (by decide) (by decide) (.slice Au k cu) (l.take k) y _ (fun _ => True) (fun k_ => True ∧ some k_ ≠ (Value.slice Au k cu).ownBlock) rfl rfl ?hp (fun _ hk => hk) (fun _ _ => trivial) HO2.out HT2.out ?hS ?hl ?_
                     case hp => exact k81_mkM _ _ _ y (Kd.R_lower (Kd.R_new' HV2.out (fun k hk => by have := HLU.out k hk; rw [HSa.out]; omega)) (by rw [HSa.out]; have := Hsz.out; omega))
                     case hS => exact HT2.out.size
                     case hl => rw [List.length_take, ← Hn.out]; have := Hn64.out; omega
                     intro v1 w5 hO hB hg hat
                     have HO5 := Lib.hid hO
                     have HB5 := Lib.hid hB
                     clear hO hB hg hat)
        go_roundw
        case rel =>
          refine ⟨k + 1, by omega, by go_num, ?_, HB5⟩
          rw [Htk.out]; exact HO5
        case measure => simp [intOf]; omega
      · go_wp2_with (fail)
        obtain rfl : k = n := by omega
        rw [List.take_of_length_le (by rw [Hn.out]; exact Nat.le_refl _)] at HO
        go_ret
        exact ⟨_, rfl, HO, HB⟩
theorem values46 (l : List S81) (A : Option Addr) (c : Nat) (w : World) (hC : Kd.C k81 w A l.length l) (hc : l.length ≤ c) (hp : partsV l ≤ 100000) :
    Calls Try.prog 46 #[.slice A l.length c] w fun e w' => ∃ v, e = .returned v ∧ Hid (Kd.R k81 81 w' w.heap.size (fun _ => True) v l) ∧ Hid (Below w.heap.size w w') := values46' _ l (Nat.le_refl _) A c w hC hp
theorem R_lit0 {α : Type} (d : Kd α) (e : Nat) (w : World) (base : Nat) (ok : Nat → Prop) (hb : base ≤ w.heap.size) (ho : ok w.heap.size) : d.R e (w.alloc (.cells #[] e)) base ok (.slice (some ⟨w.heap.size, 0, none⟩) 0 0) [] :=
  ⟨fun k hk => by simp [Value.ownBlock] at hk; subst hk; exact ho, [], by
    have := World.ownsRow_lit (base := base) (e := e) (size := d.sz) w #[] 0 hb (by simp) (by simp)
    exact this, by simp, fun j p hj => by simp at hj⟩
set_option maxRecDepth 100000 in
set_option maxHeartbeats 4000000 in
theorem clone55 (xs : List Int) (A : Option Addr) (c : Nat) (w : World) (hC : Kd.C (Kd.int .i64) w A xs.length xs) (hl : xs.length ≤ 100000) :
    Calls Try.prog 55 #[.slice A xs.length c] w fun e w' => ∃ v, e = .returned v ∧ Hid ((Kd.int .i64).R 3 w' w.heap.size (fun _ => True) v xs) ∧ Hid (Below w.heap.size w w') := by
  rcases A with _ | ad
  · have h0 : xs = [] := by
      cases xs with
      | nil => rfl
      | cons x xs => obtain ⟨ad, h, -⟩ := hC.2.2 (by simp); cases h
    subst h0
    have hnil : (binOp .eql 23 (.slice none 0 c) (.slice none 0 0)).run Try.prog w = .ok (.bool true) w := Lib.run_eql_slice_nil (h := Try.underlying23) ..
    go_enter Try.func55, Try.ntmps55
    go_wp2_with (fail)
    go_ret
    exact ⟨_, rfl, Lib.hid (Kd.R_nil _ _ _ _ _), Lib.hid (Below.refl _ _)⟩
  · have HC := Lib.hid hC
    have Hl := Lib.hid hl
    obtain ⟨n, hn⟩ : ∃ n, n = xs.length := ⟨_, rfl⟩
    have Hn := Lib.hid hn
    rw [← hn]
    rw [← hn] at HC
    clear hC hl hn
    have hnil : (binOp .eql 23 (.slice (some ad) n c) (.slice none 0 0)).run Try.prog w = .ok (.bool false) w := Lib.run_eql_slice_nil (h := Try.underlying23) ..
    go_enter Try.func55, Try.ntmps55
    go_wp2_with (at_builtin; refine Kd.R_append_row (Value.int .i64) 0 (h1 := fun _ => rfl) (w0 := w) w.heap.size rfl (.tmp 5) (.tmp 6) 23 3 (.int .i64 0) 8 rfl Try.underlying23 info3 rfl (by decide) (.slice (some ⟨w.heap.size, 0, none⟩) 0 0) [] xs (some ad) n c (fun _ => True) rfl rfl (fun _ _ => trivial) (R_lit0 (Kd.int .i64) 3 w w.heap.size _ (Nat.le_refl _) trivial) ?hR ((Below.refl _ _).alloc (Nat.le_refl _) _) ?hS ?hl ?_
                 case hR => exact Kd.C_alloc HC.out _
                 case hS => simp
                 case hl => have := Hl.out; have := Hn.out; simp only [List.length_nil]; omega
                 intro v1 w2 HO2 HB2 hg hat
                 rw [List.nil_append] at HO2
                 have HO3 := Lib.hid HO2
                 have HB3 := Lib.hid HB2
                 clear HO2 HB2 hg hat)
    go_ret
    exact ⟨_, rfl, HO3, HB3⟩
set_option maxRecDepth 100000 in
set_option maxHeartbeats 4000000 in
theorem records45 (l : List S83) (A : Option Addr) (c : Nat) (w : World) (hC : Kd.C k83 w A l.length l) (hp : partsRs l ≤ 100000) :
    Calls Try.prog 45 #[.slice A l.length c] w fun e w' => ∃ v, e = .returned v ∧ Hid (Kd.R k83 83 w' w.heap.size (fun _ => True) v l) ∧ Hid (Below w.heap.size w w') := by
  obtain ⟨n, hn⟩ : ∃ n, n = l.length := ⟨_, rfl⟩
  have HC := Lib.hid hC
  have Hp := Lib.hid hp
  have Hn := Lib.hid hn
  have hn64 : n ≤ 100000 := by
    have h1 := partsRs_len l
    omega
  clear hC hp
  rw [← hn]
  clear hn
  go_enter Try.func45, Try.ntmps45
  go_wp2_with (fail)
  go_loopw [3, 8] (fun v3 v8 wr => ∃ k : Nat, k ≤ n ∧ v8 = .int .i64 k ∧ Hid (Kd.R k83 83 wr w.heap.size (fun _ => True) v3 (l.take k)) ∧ Hid (Below w.heap.size w wr)) (fun _ v8 _ => n - (intOf v8).toNat)
  case atStart => exact ⟨0, Nat.zero_le _, rfl, Lib.hid (Kd.R_nil _ _ _ _ _), Lib.hid (Below.refl _ _)⟩
  case round =>
    obtain ⟨k, hk, rfl, HO, HB⟩ := hrel
    have hkl : (l.take k).length = k := by rw [List.length_take, ← Hn.out]; omega
    obtain ⟨Au, cu, hv⟩ := Kd.R_slice HO.out
    rw [hkl] at hv
    subst hv
    clear hkl
    by_cases hlt : k < n
    · obtain ⟨ad, A4, c4, A5, c5, rfl, e0, e1, e2, e3, e4, e5, hl4, hC4, hl5, hC5⟩ := at_T83 HC.out (k : Int) (by omega) (by rw [← Hn.out]; omega)
      have hmem : rd_T83 l (k : Int) ∈ l := getD_mem _ _ _ (by rw [Int.toNat_natCast, ← Hn.out]; exact hlt)
      have htk : l.take (k + 1) = l.take k ++ [rd_T83 l (k : Int)] := take_getD _ _ _ (by rw [← Hn.out]; exact hlt)
      generalize rd_T83 l (k : Int) = y at *
      have Htk := Lib.hid htk
      have hpy := Nat.le_trans (partsRs_mem hmem) Hp.out
      have Hpy := Lib.hid hpy
      rw [Int.toNat_natCast] at e0 e1 e2 e3 e4 e5
      replace e0 := pw_cell_below HB.out e0
      replace e1 := pw_cell_below HB.out e1
      replace e2 := pw_cell_below HB.out e2
      replace e3 := pw_cell_below HB.out e3
      replace e4 := pw_cell_below HB.out e4
      replace e5 := pw_cell_below HB.out e5
      have HC4 := Lib.hid (Kd.C_below hC4 HB.out)
      have HC5 := Lib.hid (Kd.C_below hC5 HB.out)
      have Hl4 := Lib.hid hl4
      have Hsz := Lib.hid (show w.heap.size ≤ wr.heap.size from HB.out.size)
      have HX := Lib.hid (blk_new wr (.cells #[.string y.f0, .int .i64 y.f1.f0, .int .i64 y.f1.f1, .string y.f1.f2, .slice A4 y.f1.f3.length c4, .slice A5 y.f2.length c5] 83))
      have HBa : Hid (Below wr.heap.size wr (wr.alloc (.cells #[.string y.f0, .int .i64 y.f1.f0, .int .i64 y.f1.f1, .string y.f1.f2, .slice A4 y.f1.f3.length c4, .slice A5 y.f2.length c5] 83))) := Lib.hid ((Below.refl _ _).alloc (Nat.le_refl _) _)
      have HSa : Hid ((wr.alloc (.cells #[.string y.f0, .int .i64 y.f1.f0, .int .i64 y.f1.f1, .string y.f1.f2, .slice A4 y.f1.f3.length c4, .slice A5 y.f2.length c5] 83)).heap.size = wr.heap.size + 1) := Lib.hid (World.size_alloc _ _)
      clear hmem htk hC4 hl4 hC5 hl5 hpy
      go_upto_region 5 with (fail)
      clear e0 e1 e2 e3 e4 e5
      generalize (wr.alloc (.cells #[.string y.f0, .int .i64 y.f1.f0, .int .i64 y.f1.f1, .string y.f1.f2, .slice A4 y.f1.f3.length c4, .slice A5 y.f2.length c5] 83)) = wa at *
      have q0 : wa.cell? ⟨wr.heap.size, 0, none⟩ = some (.string y.f0) := blk_at HX.out 0 rfl
      have f0 : wa.frozen? ⟨wr.heap.size, 0, none⟩ = false := blk_frozen HX.out 0
      have q1 : wa.cell? ⟨wr.heap.size, 1, none⟩ = some (.int .i64 y.f1.f0) := blk_at HX.out 1 rfl
      have f1 : wa.frozen? ⟨wr.heap.size, 1, none⟩ = false := blk_frozen HX.out 1
      have q2 : wa.cell? ⟨wr.heap.size, 2, none⟩ = some (.int .i64 y.f1.f1) := blk_at HX.out 2 rfl
      have f2 : wa.frozen? ⟨wr.heap.size, 2, none⟩ = false := blk_frozen HX.out 2
      have q3 : wa.cell? ⟨wr.heap.size, 3, none⟩ = some (.string y.f1.f2) := blk_at HX.out 3 rfl
      have f3 : wa.frozen? ⟨wr.heap.size, 3, none⟩ = false := blk_frozen HX.out 3
      have q4 : wa.cell? ⟨wr.heap.size, 4, none⟩ = some (.slice A4 y.f1.f3.length c4) := blk_at HX.out 4 rfl
      have f4 : wa.frozen? ⟨wr.heap.size, 4, none⟩ = false := blk_frozen HX.out 4
      have q5 : wa.cell? ⟨wr.heap.size, 5, none⟩ = some (.slice A5 y.f2.length c5) := blk_at HX.out 5 rfl
      have f5 : wa.frozen? ⟨wr.heap.size, 5, none⟩ = false := blk_frozen HX.out 5
      have HY := Lib.hid (values46 y.f1.f3 A4 c4 wa (Kd.C_below HC4.out HBa.out) Hl4.out (by have := Hpy.out; unfold partsR at this; omega))
      go_upto_region 6 with (go_at_call 46; refine HY.out.mono ?_; rintro e w1 ⟨v, rfl, hv, hb⟩
                             obtain ⟨Av, cv, rfl⟩ := Kd.R_slice hv.out
                             have HX1 := Lib.hid (blk_below HX.out hb.out)
                             have g4 : w1.frozen? ⟨wr.heap.size, 4, none⟩ = false := blk_frozen HX1.out 4
                             have d4 : w1.cell? ⟨wr.heap.size, 4, none⟩ = some (.slice A4 y.f1.f3.length c4) := blk_at HX1.out 4 rfl
                             have HV1 := Lib.hid hv.out
                             have HB1 := Lib.hid (HBa.out.trans (hb.out.mono HBa.out.size))
                             have HS1 := Lib.hid hb.out.size
                             clear hb hv)
      have HX2 : Hid ((w1.setCell ⟨wr.heap.size, 4, none⟩ (.slice Av y.f1.f3.length cv)).heap[wr.heap.size]? = some (.cells #[.string y.f0, .int .i64 y.f1.f0, .int .i64 y.f1.f1, .string y.f1.f2, .slice Av y.f1.f3.length cv, .slice A5 y.f2.length c5] 83 (0, 0))) := Lib.hid (blk_put HX1.out 4 _ rfl)
      have HV2 := Lib.hid (R_low HV1.out (p := ⟨wr.heap.size, 4, none⟩) (by rw [HSa.out]; exact Nat.lt_succ_self _) (.slice Av y.f1.f3.length cv))
      have HB2 : Hid (Below wr.heap.size wr (w1.setCell ⟨wr.heap.size, 4, none⟩ (.slice Av y.f1.f3.length cv))) := Lib.hid (HB1.out.setCell (Nat.le_refl _) _)
      have HS2 : Hid (wa.heap.size ≤ (w1.setCell ⟨wr.heap.size, 4, none⟩ (.slice Av y.f1.f3.length cv)).heap.size) := Lib.hid (by simp only [World.size_setCell]; exact HS1.out)
      clear HX1 HV1 HB1 HS1 g4 d4 q0 q1 q2 q3 q4 q5 f0 f1 f2 f3 f4 f5 HX
      generalize w1.setCell ⟨wr.heap.size, 4, none⟩ (.slice Av y.f1.f3.length cv) = w2 at *
      have q0 : w2.cell? ⟨wr.heap.size, 0, none⟩ = some (.string y.f0) := blk_at HX2.out 0 rfl
      have q1 : w2.cell? ⟨wr.heap.size, 1, none⟩ = some (.int .i64 y.f1.f0) := blk_at HX2.out 1 rfl
      have q2 : w2.cell? ⟨wr.heap.size, 2, none⟩ = some (.int .i64 y.f1.f1) := blk_at HX2.out 2 rfl
      have q3 : w2.cell? ⟨wr.heap.size, 3, none⟩ = some (.string y.f1.f2) := blk_at HX2.out 3 rfl
      have q4 : w2.cell? ⟨wr.heap.size, 4, none⟩ = some (.slice Av y.f1.f3.length cv) := blk_at HX2.out 4 rfl
      have q5 : w2.cell? ⟨wr.heap.size, 5, none⟩ = some (.slice A5 y.f2.length c5) := blk_at HX2.out 5 rfl
      have HZ := Lib.hid (clone55 y.f2 A5 c5 w2 (Kd.C_below HC5.out HB2.out) (by have := Hpy.out; unfold partsR at this; omega))
      go_upto_region 7 with (go_at_call 55; refine HZ.out.mono ?_; rintro e w3 ⟨v, rfl, hv, hb⟩
                             obtain ⟨Ao, co, rfl⟩ := Kd.R_slice hv.out
                             have HX3 := Lib.hid (blk_below HX2.out hb.out)
                             have g5 : w3.frozen? ⟨wr.heap.size, 5, none⟩ = false := blk_frozen HX3.out 5
                             have d5 : w3.cell? ⟨wr.heap.size, 5, none⟩ = some (.slice A5 y.f2.length c5) := blk_at HX3.out 5 rfl
                             have HI3 := Lib.hid hv.out
                             have HV3 := Lib.hid (Kd.R_below HV2.out hb.out)
                             have HB3 := Lib.hid (HB2.out.trans (hb.out.mono HB2.out.size))
                             have HS3 := Lib.hid hb.out.size
                             clear hb hv)
      have HX4 : Hid ((w3.setCell ⟨wr.heap.size, 5, none⟩ (.slice Ao y.f2.length co)).heap[wr.heap.size]? = some (.cells #[.string y.f0, .int .i64 y.f1.f0, .int .i64 y.f1.f1, .string y.f1.f2, .slice Av y.f1.f3.length cv, .slice Ao y.f2.length co] 83 (0, 0))) := Lib.hid (blk_put HX3.out 5 _ rfl)
      have HV4 := Lib.hid (R_low HV3.out (p := ⟨wr.heap.size, 5, none⟩) (by rw [HSa.out]; exact Nat.lt_succ_self _) (.slice Ao y.f2.length co))
      have HI4 := Lib.hid (R_low (Kd.R_lower HI3.out HS2.out) (p := ⟨wr.heap.size, 5, none⟩) (by rw [HSa.out]; exact Nat.lt_succ_self _) (.slice Ao y.f2.length co))
      have HB4 : Hid (Below wr.heap.size wr (w3.setCell ⟨wr.heap.size, 5, none⟩ (.slice Ao y.f2.length co))) := Lib.hid (HB3.out.setCell (Nat.le_refl _) _)
      have HS4 : Hid (wa.heap.size ≤ (w3.setCell ⟨wr.heap.size, 5, none⟩ (.slice Ao y.f2.length co)).heap.size) := Lib.hid (by simp only [World.size_setCell]; exact Nat.le_trans HS2.out HS3.out)
      have HO4 := Lib.hid (Kd.R_below HO.out HB4.out)
      have HT4 := Lib.hid (HB.out.trans (HB4.out.mono HB.out.size))
      have HLT : Hid (∀ k, (Value.slice Au k cu).ownBlock = some k → True) := Lib.hid (fun _ _ => trivial)
      have HLU := Lib.hid (Kd.R_lt HO.out)
      clear HX3 HV3 HI3 HB3 HS3 g5 d5 q0 q1 q2 q3 q4 q5 HX2 HV2 HB2 HLT
      generalize w3.setCell ⟨wr.heap.size, 5, none⟩ (.slice Ao y.f2.length co) = w4 at *
      have q0 : w4.cell? ⟨wr.heap.size, 0, none⟩ = some (.string y.f0) := blk_at HX4.out 0 rfl
      have q1 : w4.cell? ⟨wr.heap.size, 1, none⟩ = some (.int .i64 y.f1.f0) := blk_at HX4.out 1 rfl
      have q2 : w4.cell? ⟨wr.heap.size, 2, none⟩ = some (.int .i64 y.f1.f1) := blk_at HX4.out 2 rfl
      have q3 : w4.cell? ⟨wr.heap.size, 3, none⟩ = some (.string y.f1.f2) := blk_at HX4.out 3 rfl
      have q4 : w4.cell? ⟨wr.heap.size, 4, none⟩ = some (.slice Av y.f1.f3.length cv) := blk_at HX4.out 4 rfl
      have q5 : w4.cell? ⟨wr.heap.size, 5, none⟩ = some (.slice Ao y.f2.length co) := blk_at HX4.out 5 rfl
      go_wp2_with (at_builtin; refine Kd.R_append k83 (w0 := w) w.heap.size rfl (.tmp 22) (.tmp 24) 38 83 (.agg #[.string ⟨#[]⟩, .int .i64 0, .int .i64 0, .string ⟨#[]⟩, .slice none 0 0, .slice none 0 0]) 96 rfl Try.underlying38 info83 rfl (by decide) (by decide) (.slice Au k cu) (l.take k) y _ (fun _ => True) (fun k_ => True ∧ some k_ ≠ (Value.slice Au k cu).ownBlock) rfl rfl ?hp (fun _ hk => hk) (fun _ _ => trivial) HO4.out HT4.out ?hS ?hl ?_
                   case hp => exact k83_mkM _ _ _ y (Kd.R_lower (Kd.R_new' HV4.out (fun k hk => by have := HLU.out k hk; rw [HSa.out]; omega)) (by rw [HSa.out]; have := Hsz.out; omega)) (Kd.R_lower (Kd.R_new' HI4.out (fun k hk => by have := HLU.out k hk; rw [HSa.out]; omega)) (by rw [HSa.out]; have := Hsz.out; omega))
                   case hS => exact HT4.out.size
                   case hl => rw [List.length_take, ← Hn.out]; omega
                   intro v1 w5 HO2 HB2 hg hat
                   have HO5 := Lib.hid HO2
                   have HB5 := Lib.hid HB2
                   clear HO2 HB2 hg hat)
      go_roundw
      case rel =>
        refine ⟨k + 1, by omega, by go_num, ?_, HB5⟩
        rw [Htk.out]; exact HO5
      case measure => simp [intOf]; omega
    · go_wp2_with (fail)
      obtain rfl : k = n := by omega
      rw [List.take_of_length_le (by rw [Hn.out]; exact Nat.le_refl _)] at HO
      go_ret
      exact ⟨_, rfl, HO, HB⟩
end Go.Proofs.Ytcbaiplamaopeaa.PPostShots
