/- eddysize: the parts of a part counted; few. -/
import Derived.Test.YtcbaiplamaopeaaSZ
import Derived.Test.YtcbaiplamaopeaaPF
namespace Go.Proofs.Ytcbaiplamaopeaa.PPostShots
open Go.RowKit Go.Conc Go.Proofs.YtcbaiplamaopeaaW.PrintWords Go.Proofs.YtcbaiplamaopeaaW.PrintLast Go.Proofs.Ytcbaiplamaopeaa.PPost
set_option linter.unusedVariables false
set_option linter.unusedSimpArgs false

set_option maxRecDepth 100000 in
set_option maxHeartbeats 4000000 in
theorem lists49 (l : List (List S83)) (w0 : World) (g : Nat) (a : Int) (A : Option Addr) (c : Nat) (w : World) (hA : CntAt w g a) (hC : Kd.C (Kd.slice 83 k83) w0 A l.length l) (hB : Below w0.heap.size w0 w) (hg : w0.heap.size ≤ g) (ha1 : -9223372036854775807 ≤ a) (ha2 : a ≤ 10000) (hlr : ∀ z ∈ l, ∀ y ∈ z, lenR y) :
    Calls Try.prog 49 #[.pointer (some ⟨g, 0, none⟩), .slice A l.length c] w fun e w' => e = .returned (.tuple #[]) ∧ CntPost g a (partsLs l) w w' := by
  obtain ⟨n, hn⟩ : ∃ n, n = l.length := ⟨_, rfl⟩
  have Hn := Lib.hid hn
  have HC := Lib.hid hC
  have HLR := Lib.hid hlr
  have HB := Lib.hid hB
  have Hg := Lib.hid hg
  have Ha1 := Lib.hid ha1
  have Ha2 := Lib.hid ha2
  have hmax : n ≤ 9223372036854775807 := by rw [hn]; exact Kd.C_max hC
  have HADD := Lib.hid (add56 g a n w hA hmax ha1 ha2)
  rw [← hn]
  clear hC hB hg hn hA ha1 ha2 hlr
  go_enter Try.func49, Try.ntmps49
  go_wp2_with (go_at_call 56; refine HADD.out.mono ?_; rintro e w1 ⟨⟨bb, rfl⟩, b0, C0, O0, l0, u0, r0⟩)
  go_loopw [4] (fun v4 wr => ∃ k : Nat, k ≤ n ∧ v4 = .int .i64 k ∧ ∃ b, Hid (CntAt wr g b) ∧ Hid (Only g w wr) ∧ Hid (-9223372036854775807 ≤ b ∧ b ≤ a ∧ (0 ≤ b → b = a - (n + ((l.take k).map partsRs).sum : Nat)))) (fun v4 _ => n - (intOf v4).toNat)
  case atStart =>
    exact ⟨0, Nat.zero_le _, rfl, b0, C0, O0, l0, u0, fun h => by have := r0 h; simp; omega⟩
  case round =>
    obtain ⟨k, hk, rfl, b, HA, HO, HR⟩ := hrel
    clear C0 O0 l0 u0 r0
    by_cases hlt : k < n
    · by_cases hb : 0 ≤ b
      · have HOK := Lib.hid (ok_yes g b wr HA.out hb)
        obtain ⟨ad, A1, c1, rfl, e1, hl1, hC1⟩ := at_L7 HC.out (k : Int) (by omega) (by rw [← Hn.out]; omega)
        have hmem : rd_L7 l (k : Int) ∈ l := getD_mem _ _ _ (by rw [Int.toNat_natCast, ← Hn.out]; exact hlt)
        have hsum := sum_take_succ partsRs l [] k (by rw [← Hn.out]; exact hlt)
        have hrd : rd_L7 l (k : Int) = l.getD k [] := by unfold rd_L7; rw [Int.toNat_natCast]
        rw [← hrd] at hsum
        clear hrd
        generalize rd_L7 l (k : Int) = y at *
        have HS := Lib.hid hsum
        have HBr : Hid (Below w0.heap.size w0 wr) := HB.out.trans (HO.out.below Hg.out HB.out.size)
        rw [Int.toNat_natCast] at e1
        have f3 := pw_cell_below HBr.out e1
        have HY := Lib.hid (records50 y w0 g b A1 c1 wr HA.out hC1 HBr.out Hg.out HR.out.1 (Int.le_trans HR.out.2.1 Ha2.out) (HLR.out y hmem))
        have hb2 : 0 ≤ b := hb
        clear hsum e1 hC1 hl1 hb hmem
        go_wp2_with (first
          | (go_at_call 31; refine HOK.out.mono ?_; rintro e w2 ⟨rfl, rfl⟩)
          | (go_at_call 50; refine HY.out.mono ?_; rintro e w2 ⟨rfl, b1, C1, O1, l1, u1, r1⟩
             have C1' := Lib.hid C1
             have O1' := Lib.hid O1
             have R1' := Lib.hid (And.intro l1 (And.intro u1 r1))
             clear C1 O1 l1 u1 r1))
        go_roundw
        case rel =>
          refine ⟨k + 1, by omega, by go_num, b1, C1'.out, HO.out.trans O1'.out, R1'.out.1, Int.le_trans R1'.out.2.1 HR.out.2.1, fun h => ?_⟩
          have h1 := R1'.out.2.2 h
          have h2 := HR.out.2.2 hb2
          rw [HS.out, h1, h2]
          omega
        case measure => simp [intOf]; omega
      · have HOK := Lib.hid (ok_no g b wr HA.out (by omega))
        go_wp2_with (go_at_call 31; refine HOK.out.mono ?_; rintro e w2 ⟨rfl, rfl⟩)
        go_end0
        exact ⟨rfl, b, HA.out, HO.out, HR.out.1, HR.out.2.1, fun h => by omega⟩
    · go_wp2
      go_end0
      obtain rfl : k = n := by omega
      refine ⟨rfl, b, HA.out, HO.out, HR.out.1, HR.out.2.1, fun h => ?_⟩
      rw [HR.out.2.2 h, List.take_of_length_le (by rw [Hn.out]; exact Nat.le_refl _), partsLs, ← Hn.out]

def lenP (x : S40) : Prop := (∀ y ∈ x.f2, lenR y) ∧ ∀ z ∈ x.f1, ∀ y ∈ z, lenR y
def lenO (o : S57) : Prop := lenP o.f5 ∧ wfI o.f3
theorem CntPost.step {g : Nat} {a b : Int} {n m : Nat} {w w1 w2 : World} (O1 : Only g w w1) (l1 : b ≤ a) (r1 : 0 ≤ b → b = a - n) (h2 : CntPost g b m w1 w2) (h : b ≤ 10000) : CntPost g a (n + m) w w2 := by
  obtain ⟨c, C, O, l, u, r⟩ := h2
  exact ⟨c, C, O1.trans O, l, Int.le_trans u l1, fun hc => by have h1 := r hc; have h2 := r1 (by omega); omega⟩
set_option maxRecDepth 100000 in
set_option maxHeartbeats 4000000 in
theorem part32 (x : S40) (w0 : World) (g : Nat) (a : Int) (A1 : Option Addr) (c1 : Nat) (A2 : Option Addr) (c2 : Nat) (A3 : Option Addr) (c3 : Nat) (w : World) (hA : CntAt w g a) (hC1 : Kd.C k103 w0 A1 x.f0.f1.length x.f0.f1) (hC2 : Kd.C (Kd.slice 83 k83) w0 A2 x.f1.length x.f1) (hC3 : Kd.C k83 w0 A3 x.f2.length x.f2) (hB : Below w0.heap.size w0 w) (hg : w0.heap.size ≤ g) (ha1 : -9223372036854775807 ≤ a) (ha2 : a ≤ 10000) (hl : lenP x) :
    Calls Try.prog 32 #[.pointer (some ⟨g, 0, none⟩), .agg #[.int .i64 x.f0.f0, .slice A1 x.f0.f1.length c1, .slice A2 x.f1.length c2, .slice A3 x.f2.length c3]] w fun e w' => e = .returned (.tuple #[]) ∧ CntPost g a (partsP x) w w' := by
  have hgl := blk_lt hA
  have HB1 : Hid (Below w0.heap.size w0 (w.alloc (.cells #[.int .i64 x.f0.f0, .slice A1 x.f0.f1.length c1, .slice A2 x.f1.length c2, .slice A3 x.f2.length c3] 40))) := Lib.hid (hB.alloc hB.size _)
  have HO1 : Hid (Only g w (w.alloc (.cells #[.int .i64 x.f0.f0, .slice A1 x.f0.f1.length c1, .slice A2 x.f1.length c2, .slice A3 x.f2.length c3] 40))) := Lib.hid ((Only.refl g w).alloc _)
  have HX1 := Lib.hid (blk_new w (.cells #[.int .i64 x.f0.f0, .slice A1 x.f0.f1.length c1, .slice A2 x.f1.length c2, .slice A3 x.f2.length c3] 40))
  have HY := Lib.hid (cells48 x.f0.f1 w0 g a A1 c1 (w.alloc (.cells #[.int .i64 x.f0.f0, .slice A1 x.f0.f1.length c1, .slice A2 x.f1.length c2, .slice A3 x.f2.length c3] 40)) (blk_alloc hA _) hC1 HB1.out hg ha1 ha2)
  have HC2 := Lib.hid hC2
  have HC3 := Lib.hid hC3
  have Hg := Lib.hid hg
  have Ha2 := Lib.hid ha2
  have HL := Lib.hid hl
  have hne : w.heap.size ≠ g := by omega
  have Hne := Lib.hid hne
  clear hC1 hC2 hC3 hB hg ha1 ha2 hl hA hgl hne
  go_enter Try.func32, Try.ntmps32
  go_upto_region 1 with (fail)
  generalize w.alloc (.cells #[.int .i64 x.f0.f0, .slice A1 x.f0.f1.length c1, .slice A2 x.f1.length c2, .slice A3 x.f2.length c3] 40) = w1 at *
  generalize w.heap.size = bx at *
  have e1 : w1.cell? ⟨bx, 1, none⟩ = some (.slice A1 x.f0.f1.length c1) := blk_at HX1.out 1 rfl
  go_wp2_with (first
    | (go_at_call 48; refine HY.out.mono ?_; rintro e w2 ⟨rfl, b1, C1, O1, l1, u1, r1⟩
       have C1' := Lib.hid C1
       have R1' := Lib.hid (And.intro l1 (And.intro u1 r1))
       have HB2 := Lib.hid (HB1.out.trans (O1.below Hg.out HB1.out.size))
       have HO2 := Lib.hid (HO1.out.trans O1)
       have HX2 := Lib.hid ((O1.block _ (blk_lt HX1.out) Hne.out).trans HX1.out)
       have e2 : w2.cell? ⟨bx, 2, none⟩ = some (.slice A2 x.f1.length c2) := blk_at HX2.out 2 rfl
       clear C1 O1 l1 u1 r1)
    | (go_at_call 49; refine (lists49 x.f1 w0 g b1 A2 c2 w2 C1'.out HC2.out HB2.out Hg.out R1'.out.1 (Int.le_trans R1'.out.2.1 Ha2.out) HL.out.2).mono ?_; rintro e w3 ⟨rfl, b2, C2, O2, l2, u2, r2⟩
       have C2' := Lib.hid C2
       have R2' := Lib.hid (And.intro l2 (And.intro u2 r2))
       have HB3 := Lib.hid (HB2.out.trans (O2.below Hg.out HB2.out.size))
       have HO3 := Lib.hid (HO2.out.trans O2)
       have HX3 := Lib.hid ((O2.block _ (blk_lt HX2.out) Hne.out).trans HX2.out)
       have e3 : w3.cell? ⟨bx, 3, none⟩ = some (.slice A3 x.f2.length c3) := blk_at HX3.out 3 rfl
       clear C2 O2 l2 u2 r2)
    | (go_at_call 50; refine (records50 x.f2 w0 g b2 A3 c3 w3 C2'.out HC3.out HB3.out Hg.out R2'.out.1 (Int.le_trans R2'.out.2.1 (Int.le_trans R1'.out.2.1 Ha2.out)) HL.out.1).mono ?_; rintro e w4 ⟨rfl, b3, C3, O3, l3, u3, r3⟩
       have C3' := Lib.hid C3
       have R3' := Lib.hid (And.intro l3 (And.intro u3 r3))
       have HO4 := Lib.hid (HO3.out.trans O3)
       clear C3 O3 l3 u3 r3))
  go_end0
  refine ⟨rfl, b3, C3'.out, HO4.out, R3'.out.1, Int.le_trans R3'.out.2.1 (Int.le_trans R2'.out.2.1 R1'.out.2.1), fun h => ?_⟩
  have h3 := R3'.out.2.2 h
  have h2 := R2'.out.2.2 (by have := R3'.out.2.1; omega)
  have h1 := R1'.out.2.2 (by have := R3'.out.2.1; have := R2'.out.2.1; omega)
  unfold partsP
  omega
theorem ok31 (g : Nat) (a : Int) (w : World) (h : CntAt w g a) : Calls Try.prog 31 #[.pointer (some ⟨g, 0, none⟩)] w fun e w' => e = .returned (.bool (decide (0 ≤ a))) ∧ w = w' := by
  by_cases ha : 0 ≤ a
  · rw [decide_eq_true ha]; exact ok_yes g a w h ha
  · rw [decide_eq_false ha]; exact ok_no g a w h (by omega)
def fewN (l : List S57) : Nat := (l.map fun o => partsP o.f5).sum
theorem fewN_mem {l : List S57} {o : S57} (h : o ∈ l) : partsP o.f5 ≤ fewN l := le_sum_of_mem (List.mem_map_of_mem (f := fun o : S57 => partsP o.f5) h)
set_option maxRecDepth 100000 in
set_option maxHeartbeats 8000000 in
theorem few15 (l : List S57) (A : Option Addr) (c : Nat) (w : World) (hC : Kd.C k57 w A l.length l) (hl : ∀ o ∈ l, lenO o) :
    Calls Try.prog 15 #[.slice A l.length c] w fun e w' => ∃ b, e = .returned (.bool b) ∧ (b = true → ∀ o ∈ l, partsP o.f5 ≤ 10000) ∧ Below w.heap.size w w' := by
  obtain ⟨n, hn⟩ : ∃ n, n = l.length := ⟨_, rfl⟩
  have Hn := Lib.hid hn
  have HC := Lib.hid hC
  have HL := Lib.hid hl
  have hmax : n ≤ 9223372036854775807 := by rw [hn]; exact Kd.C_max hC
  rw [← hn]
  clear hC hl hn
  go_enter Try.func15, Try.ntmps15
  go_wp2_with (go_at_call 30; refine (new30 _).mono ?_; rintro e w1 ⟨rfl, rfl⟩)
  go_loopw [4] (fun v4 wr => ∃ k : Nat, k ≤ n ∧ v4 = .int .i64 k ∧ ∃ b, Hid (CntAt wr w.heap.size b) ∧ Hid (Below w.heap.size w wr) ∧ Hid (-9223372036854775807 ≤ b ∧ b ≤ 10000 ∧ (0 ≤ b → b = 10000 - (((l.take k).map fun o => partsP o.f5).sum : Nat)))) (fun v4 _ => n - (intOf v4).toNat)
  case atStart =>
    exact ⟨0, Nat.zero_le _, rfl, 10000, blk_new _ _, (Below.refl _ _).alloc (Nat.le_refl _) _, by decide, by decide, fun h => by simp⟩
  case round =>
    obtain ⟨k, hk, rfl, b, HA, HB, HR⟩ := hrel
    by_cases hlt : k < n
    · by_cases hb : 0 ≤ b
      · have HOK := Lib.hid (ok_yes w.heap.size b wr HA.out hb)
        obtain ⟨ad, A6, c6, A7, c7, A8, c8, rfl, e0, e1, e2, e3, e4, e5, e6, e7, e8, e9, hl6, hC6, hl7, hC7, hl8, hC8⟩ := at_T57 HC.out (k : Int) (by omega) (by rw [← Hn.out]; omega)
        have hmem : rd_T57 l (k : Int) ∈ l := getD_mem _ _ _ (by rw [Int.toNat_natCast, ← Hn.out]; exact hlt)
        have hsum := sum_take_succ (fun o : S57 => partsP o.f5) l z57 k (by rw [← Hn.out]; exact hlt)
        have hrd : rd_T57 l (k : Int) = l.getD k z57 := by unfold rd_T57; rw [Int.toNat_natCast]
        rw [← hrd] at hsum
        clear hrd
        generalize rd_T57 l (k : Int) = o at *
        have HS := Lib.hid hsum
        rw [Int.toNat_natCast] at e0 e1 e2 e3 e4 e5 e6 e7 e8 e9
        replace e5 := pw_cell_below HB.out e5
        replace e6 := pw_cell_below HB.out e6
        replace e7 := pw_cell_below HB.out e7
        replace e8 := pw_cell_below HB.out e8
        have HY := Lib.hid (part32 o.f5 w w.heap.size b A6 c6 A7 c7 A8 c8 wr HA.out hC6 hC7 hC8 HB.out (Nat.le_refl _) HR.out.1 HR.out.2.1 (HL.out o hmem).1)
        have hsz := HB.out.size
        have Hsz := Lib.hid hsz
        have hb2 : 0 ≤ b := hb
        clear hmem hsum e0 e1 e2 e3 e4 e9 hC6 hl6 hC7 hl7 hC8 hl8 hb hsz
        go_wp2_with (first
          | (go_at_call 31; refine HOK.out.mono ?_; rintro e w2 ⟨rfl, rfl⟩)
          | (go_at_call 32; refine HY.out.mono ?_; rintro e w2 ⟨rfl, b1, C1, O1, l1, u1, r1⟩
             have C1' := Lib.hid C1
             have HB2 : Hid (Below w.heap.size w w2) := HB.out.trans (O1.below (Nat.le_refl _) Hsz.out)
             have R1' := Lib.hid (And.intro l1 (And.intro u1 r1))
             clear C1 O1 l1 u1 r1))
        go_roundw
        case rel =>
          refine ⟨k + 1, by omega, by go_num, b1, C1'.out, HB2.out, R1'.out.1, Int.le_trans R1'.out.2.1 HR.out.2.1, fun h => ?_⟩
          have h1 := R1'.out.2.2 h
          have h2 := HR.out.2.2 hb2
          rw [HS.out, h1, h2]
          omega
        case measure => simp [intOf]; omega
      · have HOK := Lib.hid (ok_no w.heap.size b wr HA.out (by omega))
        go_wp2_with (go_at_call 31; refine HOK.out.mono ?_; rintro e w2 ⟨rfl, rfl⟩)
        go_ret
        exact ⟨false, rfl, (fun h => by cases h), HB.out⟩
    · have HOK := Lib.hid (ok31 w.heap.size b wr HA.out)
      go_wp2_with (go_at_call 31; refine HOK.out.mono ?_; rintro e w2 ⟨rfl, rfl⟩)
      go_ret
      refine ⟨_, rfl, fun h o ho => ?_, HB.out⟩
      obtain rfl : k = n := by omega
      have h0 : 0 ≤ b := by simpa using h
      have h1 := HR.out.2.2 h0
      rw [List.take_of_length_le (by rw [Hn.out]; exact Nat.le_refl _)] at h1
      have h2 := fewN_mem ho
      unfold fewN at h2
      omega
end Go.Proofs.Ytcbaiplamaopeaa.PPostShots
