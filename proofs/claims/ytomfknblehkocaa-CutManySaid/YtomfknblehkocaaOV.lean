/- ownValue, ownValues: the values' copies that the book makes. -/
import Derived.Test.YtomfknblehkocaaT
namespace Go.Proofs.Ytomfknblehkocaa.C
open Go.RowKit Go.Proofs.YtomfknblehkocaaW.PrintWords Go.Proofs.YtomfknblehkocaaW.PrintLast
set_option linter.unusedVariables false
set_option linter.unusedSimpArgs false

def OwnVs (l : List S42) : Prop := ∀ (A : Option Addr) (c : Nat) (w : World), Kd.C k42 w A l.length l → l.length ≤ c → partsV l ≤ 100000 →
    Calls Try.prog 67 #[.slice A l.length c] w fun e w' => ∃ v, e = .returned v ∧ Hid (Kd.R k42 42 w' w.heap.size (fun _ => True) v l) ∧ Hid (Below w.heap.size w w')
def OwnV (x : S42) : Prop := ∀ (A : Option Addr) (c : Nat) (w : World), Kd.C k42 w A x.f3.length x.f3 → x.f3.length ≤ c → partsV x.f3 ≤ 100000 →
    Calls Try.prog 56 #[.agg #[.int .i64 x.f0, .int .i64 x.f1, .string x.f2, .slice A x.f3.length c]] w fun e w' => ∃ v, e = .returned (.agg #[.int .i64 x.f0, .int .i64 x.f1, .string x.f2, v]) ∧ Hid (Kd.R k42 42 w' w.heap.size (fun _ => True) v x.f3) ∧ Hid (Below w.heap.size w w')
set_option maxRecDepth 100000 in
set_option maxHeartbeats 4000000 in
theorem ownValues_step (N : Nat) (ih : ∀ x : S42, SizeOf.sizeOf x ≤ N → OwnV x) (l : List S42) (hN : SizeOf.sizeOf l ≤ N + 1) : OwnVs l := by
  intro A c w hC hc hp
  obtain ⟨n, hn⟩ : ∃ n, n = l.length := ⟨_, rfl⟩
  have Hn := Lib.hid hn
  have HC := Lib.hid hC
  have Hp := Lib.hid hp
  have IH := Lib.hid ih
  have HN := Lib.hid hN
  clear hC hp ih hN
  rw [← hn]
  clear hn
  go_enter Try.func67, Try.ntmps67
  go_wp2
  go_loopw [3, 8] (fun v3 v8 wr => ∃ k : Nat, k ≤ n ∧ v8 = .int .i64 k ∧ Hid (Kd.R k42 42 wr w.heap.size (fun _ => True) v3 (l.take k)) ∧ Hid (Below w.heap.size w wr)) (fun _ v8 _ => n - (intOf v8).toNat)
  case atStart => exact ⟨0, Nat.zero_le _, rfl, Kd.R_nil _ _ _ _ _, Below.refl _ _⟩
  case round =>
    obtain ⟨k, hk, rfl, HO, HB⟩ := hrel
    have hkl : (l.take k).length = k := by rw [List.length_take, ← Hn.out]; omega
    obtain ⟨Ao, co, hv⟩ := Kd.R_slice HO.out
    rw [hkl] at hv
    subst hv
    clear hkl
    by_cases hlt : k < n
    · obtain ⟨ad, A3, cc, rfl, e0, e1, e2, e3, hl3, hC3⟩ := at_T42 HC.out (k : Int) (by omega) (by rw [← Hn.out]; omega)
      have hmem : rd_T42 l (k : Int) ∈ l := getD_mem _ _ _ (by rw [Int.toNat_natCast, ← Hn.out]; exact hlt)
      have htk : l.take (k + 1) = l.take k ++ [rd_T42 l (k : Int)] := take_getD _ _ _ (by rw [← Hn.out]; exact hlt)
      generalize rd_T42 l (k : Int) = y at *
      have Htk := Lib.hid htk
      rw [Int.toNat_natCast] at e0 e1 e2 e3
      replace e0 := (HB.out.cell (World.block_lt_of_cell? w _ e0)).trans e0
      replace e1 := (HB.out.cell (World.block_lt_of_cell? w _ e1)).trans e1
      replace e2 := (HB.out.cell (World.block_lt_of_cell? w _ e2)).trans e2
      replace e3 := (HB.out.cell (World.block_lt_of_cell? w _ e3)).trans e3
      have HY : Hid (∀ W : World, PLift (Below wr.heap.size wr W) → Calls Try.prog 56 #[.agg #[.int .i64 y.f0, .int .i64 y.f1, .string y.f2, .slice A3 y.f3.length cc]] W fun e w' => ∃ v, e = .returned (.agg #[.int .i64 y.f0, .int .i64 y.f1, .string y.f2, v]) ∧ Hid (Kd.R k42 42 w' W.heap.size (fun _ => True) v y.f3) ∧ Hid (Below W.heap.size W w')) := fun W hW => IH.out y (by have := List.sizeOf_lt_of_mem hmem; have := HN.out; omega) A3 cc W (Kd.C_below (Kd.C_below hC3 HB.out) hW.down) hl3 (by have := partsV_mem hmem; have := Hp.out; omega)
      clear hC3 hl3
      have hn64 : n ≤ 100000 := by
        have h1 := partsV_len l
        have h2 := Hp.out
        have h3 := Hn.out
        omega
      have Hsz := Lib.hid (show w.heap.size ≤ wr.heap.size from HB.out.size)
      clear hmem htk
      go_wp2_with (first
        | (go_at_call 56; refine (HY.out _ ⟨Below.refl _ _ |>.alloc (Nat.le_refl _) _⟩).mono ?_; rintro e w1 ⟨v, rfl, hv, hb⟩)
        | (at_builtin; refine Kd.R_append k42 (w0 := w) w.heap.size rfl (.tmp 12) (.tmp 15) 40 42 (.agg #[.int .i64 0, .int .i64 0, .string ⟨#[]⟩, .slice none 0 0]) 56 rfl Try.underlying40 info42 rfl (by decide) (by decide) (.slice Ao k co) (l.take k) y _ (fun _ => True) (fun k_ => True ∧ some k_ ≠ (Value.slice Ao k co).ownBlock) rfl rfl ?hp (fun _ hk => hk) (fun _ _ => trivial) ?hO ?hB ?hS ?hl ?_
           case hp => exact k42_mkM _ _ _ y (Kd.R_lower (Kd.R_new' hv.out (fun i hi => by have := Kd.R_lt HO.out i hi; simp only [World.size_alloc]; omega)) (by simp only [World.size_alloc]; have := Hsz.out; omega))
           case hO => exact Kd.R_below (Kd.R_alloc HO.out _) hb.out
           case hB => exact (HB.out.alloc HB.out.size _).trans (hb.out.mono (by simp only [World.size_alloc]; have := Hsz.out; omega))
           case hS => have h1 := hb.out.size; have := Hsz.out; simp only [World.size_alloc] at h1; omega
           case hl => rw [List.length_take, ← Hn.out]; omega
           intro v1 w2 HO2 HB2 hg hat
           have HO2' := Lib.hid HO2
           have HB2' := Lib.hid HB2
           clear HO2 HB2 hg hat))
      go_roundw
      case rel =>
        refine ⟨k + 1, by omega, by go_num, ?_, ?_⟩
        · rw [Htk.out]; exact HO2'.out
        · exact HB2'.out
      case measure => simp [intOf]; omega
    · go_wp2
      obtain rfl : k = n := by omega
      rw [List.take_of_length_le (by rw [Hn.out]; exact Nat.le_refl _)] at HO
      go_ret
      exact ⟨_, rfl, HO, HB⟩

set_option maxRecDepth 100000 in
set_option maxHeartbeats 4000000 in
theorem ownValue_step (x : S42) (ih : OwnVs x.f3) : OwnV x := by
  intro A c w hC hc hp
  have HY := Lib.hid (ih A c ((w.alloc (.cells #[.int .i64 x.f0, .int .i64 x.f1, .string x.f2, .slice A x.f3.length c] 42)).alloc (.cells #[.int .i64 0, .int .i64 0, .string ⟨#[]⟩, .slice none 0 0] 42)) (Kd.C_alloc (Kd.C_alloc hC _) _) hc hp)
  clear hC hc hp ih
  go_enter Try.func56, Try.ntmps56
  go_wp2_with (first
    | (go_at_call 67; refine HY.out.mono ?_; rintro e w1 ⟨v, rfl, hv, hb⟩
       obtain ⟨Av, cv, rfl⟩ := Kd.R_slice hv.out
       have B1 : Hid (w1.heap[w.heap.size]? = some (.cells #[.int .i64 x.f0, .int .i64 x.f1, .string x.f2, .slice A x.f3.length c] 42 (0, 0))) := blk_below (blk_alloc (blk_new w _) _) hb.out
       have B2 : Hid (w1.heap[w.heap.size + 1]? = some (.cells #[.int .i64 0, .int .i64 0, .string ⟨#[]⟩, .slice none 0 0] 42 (0, 0))) := blk_below (by
         have := blk_new (w.alloc (.cells #[.int .i64 x.f0, .int .i64 x.f1, .string x.f2, .slice A x.f3.length c] 42)) (.cells #[.int .i64 0, .int .i64 0, .string ⟨#[]⟩, .slice none 0 0] 42)
         simp only [World.size_alloc] at this
         exact this) hb.out
       have q0 : w1.cell? ⟨w.heap.size, 0, none⟩ = some (.int .i64 x.f0) := blk_at B1.out 0 rfl
       have f0 : w1.frozen? ⟨w.heap.size, 0, none⟩ = false := blk_frozen B1.out 0
       have q1 : w1.cell? ⟨w.heap.size, 1, none⟩ = some (.int .i64 x.f1) := blk_at B1.out 1 rfl
       have f1 : w1.frozen? ⟨w.heap.size, 1, none⟩ = false := blk_frozen B1.out 1
       have q2 : w1.cell? ⟨w.heap.size, 2, none⟩ = some (.string x.f2) := blk_at B1.out 2 rfl
       have f2 : w1.frozen? ⟨w.heap.size, 2, none⟩ = false := blk_frozen B1.out 2
       have q3 : w1.cell? ⟨w.heap.size, 3, none⟩ = some (.slice A x.f3.length c) := blk_at B1.out 3 rfl
       have f3 : w1.frozen? ⟨w.heap.size, 3, none⟩ = false := blk_frozen B1.out 3
       have d0 : w1.cell? ⟨(w.heap.size + 1), 0, none⟩ = some (.int .i64 0) := blk_at B2.out 0 rfl
       have g0 : w1.frozen? ⟨(w.heap.size + 1), 0, none⟩ = false := blk_frozen B2.out 0
       have d1 : w1.cell? ⟨(w.heap.size + 1), 1, none⟩ = some (.int .i64 0) := blk_at B2.out 1 rfl
       have g1 : w1.frozen? ⟨(w.heap.size + 1), 1, none⟩ = false := blk_frozen B2.out 1
       have d2 : w1.cell? ⟨(w.heap.size + 1), 2, none⟩ = some (.string ⟨#[]⟩) := blk_at B2.out 2 rfl
       have g2 : w1.frozen? ⟨(w.heap.size + 1), 2, none⟩ = false := blk_frozen B2.out 2
       have d3 : w1.cell? ⟨(w.heap.size + 1), 3, none⟩ = some (.slice none 0 0) := blk_at B2.out 3 rfl
       have g3 : w1.frozen? ⟨(w.heap.size + 1), 3, none⟩ = false := blk_frozen B2.out 3
))
  refine bodyPost_ret (results_cell_row rfl _ _ (w.heap.size + 1) 42 #[.int .i64 x.f0, .int .i64 x.f1, .string x.f2, .slice Av x.f3.length cv] (0, 0) _ rfl ?_ Try.underlying42 rfl (by kernel_rfl)) rfl ⟨_, rfl, ?_, ?_⟩
  · exact blk_put (blk_put (blk_put (blk_put (blk_far B2.out (by simp) _) 0 _ rfl) 1 _ rfl) 2 _ rfl) 3 _ rfl
  · refine Lib.hid ?_
    have hv2 : Kd.R k42 42 w1 (w.heap.size + 2) (fun _ => True) (.slice Av x.f3.length cv) x.f3 := by
      have := hv.out
      simp only [World.size_alloc] at this
      exact this
    refine Kd.R_lower (base := w.heap.size + 2) ?_ (Nat.le_add_right _ _)
    iterate 5 refine R_low ?_ (by simp only []; omega) _
    exact hv2
  · refine Lib.hid ?_
    iterate 5 refine Below.setCell ?_ (by simp) _
    exact (((Below.refl _ _).alloc (Nat.le_refl _) _).alloc (by simp) _).trans (hb.out.mono (by simp only [World.size_alloc]; omega))
theorem own_all : ∀ N : Nat, (∀ l : List S42, SizeOf.sizeOf l ≤ N → OwnVs l) ∧ (∀ x : S42, SizeOf.sizeOf x ≤ N → OwnV x)
  | 0 => ⟨fun l h => by cases l <;> simp at h, fun x h => by cases x; simp at h⟩
  | N + 1 => ⟨fun l h => ownValues_step N (own_all N).2 l h, fun x h => ownValue_step x ((own_all N).1 x.f3 (by cases x; simp at h ⊢; omega))⟩
theorem ownValues67 (l : List S42) : OwnVs l := (own_all _).1 l (Nat.le_refl _)
theorem ownValue56 (x : S42) : OwnV x := (own_all _).2 x (Nat.le_refl _)

end Go.Proofs.Ytomfknblehkocaa.C
