/- eddysize: the parts of items and of records counted; few. -/
import Derived.Test.YtcbfddhdaamimaaSZ
namespace Go.Proofs.Ytcbfddhdaamimaa.PLaneFifo
open Go.RowKit Go.Conc Go.Proofs.YtcbfddhdaamimaaW.PrintWords Go.Proofs.YtcbfddhdaamimaaW.PrintLast
set_option linter.unusedVariables false
set_option linter.unusedSimpArgs false

def partsI (x : S35) : Nat := partsR x.f1
def partsIs (l : List S35) : Nat := (l.map partsI).sum
theorem partsIs_len : ∀ (l : List S35), l.length ≤ partsIs l
  | [] => Nat.zero_le _
  | y :: l => by
    have := partsIs_len l
    have h1 : 1 ≤ partsI y := by unfold partsI partsR; omega
    simp only [partsIs, List.map_cons, List.sum_cons, List.length_cons] at this ⊢
    omega
theorem partsIs_mem {l : List S35} {y : S35} (h : y ∈ l) : partsR y.f1 ≤ partsIs l := le_sum_of_mem (List.mem_map_of_mem (f := partsI) h)
theorem ok25 (g : Nat) (a : Int) (w : World) (h : CntAt w g a) : Calls Try.prog 25 #[.pointer (some ⟨g, 0, none⟩)] w fun e w' => e = .returned (.bool (decide (0 ≤ a))) ∧ w = w' := by
  by_cases ha : 0 ≤ a
  · rw [decide_eq_true ha]; exact ok_yes g a w h ha
  · rw [decide_eq_false ha]; exact ok_no g a w h (by omega)
set_option maxRecDepth 100000 in
set_option maxHeartbeats 4000000 in
theorem items24 (l : List S35) (w0 : World) (g : Nat) (a : Int) (A : Option Addr) (c : Nat) (w : World) (hA : CntAt w g a) (hC : Kd.C k35 w0 A l.length l) (hB : Below w0.heap.size w0 w) (hg : w0.heap.size ≤ g) (ha1 : -9223372036854775807 ≤ a) (ha2 : a ≤ 10000) (hl : ∀ y ∈ l, lenR y.f1) :
    Calls Try.prog 24 #[.pointer (some ⟨g, 0, none⟩), .slice A l.length c] w fun e w' => e = .returned (.tuple #[]) ∧ CntPost g a (partsIs l) w w' := by
  obtain ⟨n, hn⟩ : ∃ n, n = l.length := ⟨_, rfl⟩
  have Hn := Lib.hid hn
  have HC := Lib.hid hC
  have HB := Lib.hid hB
  have Hg := Lib.hid hg
  have Ha1 := Lib.hid ha1
  have Ha2 := Lib.hid ha2
  have Hl := Lib.hid hl
  have HA0 := Lib.hid hA
  have hmax : n ≤ 9223372036854775807 := by rw [hn]; exact Kd.C_max hC
  rw [← hn]
  clear hC hB hg hn hA ha1 ha2 hl
  go_enter Try.func24, Try.ntmps24
  go_wp2
  go_loopw [4] (fun v4 wr => ∃ k : Nat, k ≤ n ∧ v4 = .int .i64 k ∧ ∃ b, Hid (CntAt wr g b) ∧ Hid (Only g w wr) ∧ Hid (-9223372036854775807 ≤ b ∧ b ≤ a ∧ (0 ≤ b → b = a - (((l.take k).map partsI).sum : Nat)))) (fun v4 _ => n - (intOf v4).toNat)
  case atStart =>
    exact ⟨0, Nat.zero_le _, rfl, a, HA0.out, Only.refl _ _, Ha1.out, Int.le_refl _, fun h => by simp⟩
  case round =>
    obtain ⟨k, hk, rfl, b, HA, HO, HR⟩ := hrel
    by_cases hlt : k < n
    · by_cases hb : 0 ≤ b
      · have HOK := Lib.hid (ok_yes g b wr HA.out hb)
        obtain ⟨ad, A4, c4, A5, c5, rfl, e0, e1, e2, e3, e4, e5, e6, hl4, hC4, hl5, hC5⟩ := at_T35 HC.out (k : Int) (by omega) (by rw [← Hn.out]; omega)
        have hmem : rd_T35 l (k : Int) ∈ l := getD_mem _ _ _ (by rw [Int.toNat_natCast, ← Hn.out]; exact hlt)
        have hsum := sum_take_succ partsI l z35 k (by rw [← Hn.out]; exact hlt)
        have hrd : rd_T35 l (k : Int) = l.getD k z35 := by unfold rd_T35; rw [Int.toNat_natCast]
        rw [← hrd] at hsum
        clear hrd
        generalize rd_T35 l (k : Int) = y at *
        have HS := Lib.hid hsum
        have HBr : Hid (Below w0.heap.size w0 wr) := HB.out.trans (HO.out.below Hg.out HB.out.size)
        rw [Int.toNat_natCast] at e0 e1 e2 e3 e4 e5 e6
        replace e0 := pw_cell_below HBr.out e0
        replace e1 := pw_cell_below HBr.out e1
        replace e2 := pw_cell_below HBr.out e2
        replace e3 := pw_cell_below HBr.out e3
        replace e4 := pw_cell_below HBr.out e4
        replace e5 := pw_cell_below HBr.out e5
        replace e6 := pw_cell_below HBr.out e6
        have HY := Lib.hid (record35 y.f1 w0 g b A4 c4 A5 c5 wr HA.out hC4 hl4 hC5 HBr.out Hg.out HR.out.1 (Int.le_trans HR.out.2.1 Ha2.out) (Hl.out y hmem))
        have hb2 : 0 ≤ b := hb
        clear hmem hsum hC4 hl4 hC5 hl5 hb
        go_wp2_with (first
          | (go_at_call 25; refine HOK.out.mono ?_; rintro e w2 ⟨rfl, rfl⟩)
          | (go_at_call 35; refine HY.out.mono ?_; rintro e w2 ⟨rfl, b1, C1, O1, l1, u1, r1⟩
             have C1' := Lib.hid C1
             have O1' := Lib.hid O1
             have R1' := Lib.hid (And.intro l1 (And.intro u1 r1))
             clear C1 O1 l1 u1 r1))
        go_roundw
        case rel =>
          refine ⟨k + 1, by omega, by go_num, b1, C1'.out, HO.out.trans O1'.out, R1'.out.1, Int.le_trans R1'.out.2.1 HR.out.2.1, fun h => ?_⟩
          have h1 := R1'.out.2.2 h
          have h2 := HR.out.2.2 hb2
          rw [HS.out, h1, h2]
          have h4 : partsI y = partsR y.f1 := rfl
          omega
        case measure => simp [intOf]; omega
      · have HOK := Lib.hid (ok_no g b wr HA.out (by omega))
        go_wp2_with (go_at_call 25; refine HOK.out.mono ?_; rintro e w2 ⟨rfl, rfl⟩)
        go_end0
        exact ⟨rfl, b, HA.out, HO.out, HR.out.1, HR.out.2.1, fun h => by omega⟩
    · go_wp2
      go_end0
      obtain rfl : k = n := by omega
      refine ⟨rfl, b, HA.out, HO.out, HR.out.1, HR.out.2.1, fun h => ?_⟩
      rw [HR.out.2.2 h, List.take_of_length_le (by rw [Hn.out]; exact Nat.le_refl _), partsIs]

def Items_P (l : List S35) : Nat := partsIs l
def Records_P (l : List S33) : Nat := partsRs l

set_option maxHeartbeats 4000000 in
theorem Items_6 (l : List S35) (A : Option Addr) (c : Nat) (w : World) (hC : Kd.C k35 w A l.length l) (hl : ∀ y ∈ l, lenR y.f1) :
    Calls Try.prog 6 #[.slice A l.length c] w fun e w' => ∃ b, e = .returned (.bool b) ∧ (b = true → Items_P l ≤ 10000) ∧ Below w.heap.size w w' := by
  have HG := Lib.hid (items24 l w w.heap.size 10000 A c (w.alloc (.cells #[.int .i64 10000] 77)) (by exact blk_new _ _) hC ((Below.refl _ _).alloc (Nat.le_refl _) _) (Nat.le_refl _) (by decide) (by decide) hl)
  clear hC hl
  go_enter Try.func6, Try.ntmps6
  go_wp2_with (first
    | (go_at_call 23; refine (new23 _).mono ?_; rintro e w1 ⟨rfl, rfl⟩)
    | (go_at_call 24; refine HG.out.mono ?_; rintro e w2 ⟨rfl, b, C1, O1, l1, u1, r1⟩
       have HB : Hid (Below w.heap.size w w2) := ((Below.refl _ _).alloc (Nat.le_refl _) _).trans (O1.below (Nat.le_refl _) (by simp))
       have HC1 := Lib.hid C1
       have HR := Lib.hid r1
       clear C1 O1 l1 u1 r1)
    | (go_at_call 25; refine (ok25 _ b _ HC1.out).mono ?_; rintro e w3 ⟨rfl, rfl⟩))
  go_ret
  refine ⟨_, rfl, fun h => ?_, HB.out⟩
  have h0 : 0 ≤ b := by simpa using h
  have h1 := HR.out h0
  unfold Items_P
  omega

set_option maxHeartbeats 4000000 in
theorem Records_14 (l : List S33) (A : Option Addr) (c : Nat) (w : World) (hC : Kd.C k33 w A l.length l) (hl : ∀ y ∈ l, lenR y) :
    Calls Try.prog 14 #[.slice A l.length c] w fun e w' => ∃ b, e = .returned (.bool b) ∧ (b = true → Records_P l ≤ 10000) ∧ Below w.heap.size w w' := by
  have HG := Lib.hid (records30 l w w.heap.size 10000 A c (w.alloc (.cells #[.int .i64 10000] 77)) (by exact blk_new _ _) hC ((Below.refl _ _).alloc (Nat.le_refl _) _) (Nat.le_refl _) (by decide) (by decide) hl)
  clear hC hl
  go_enter Try.func14, Try.ntmps14
  go_wp2_with (first
    | (go_at_call 23; refine (new23 _).mono ?_; rintro e w1 ⟨rfl, rfl⟩)
    | (go_at_call 30; refine HG.out.mono ?_; rintro e w2 ⟨rfl, b, C1, O1, l1, u1, r1⟩
       have HB : Hid (Below w.heap.size w w2) := ((Below.refl _ _).alloc (Nat.le_refl _) _).trans (O1.below (Nat.le_refl _) (by simp))
       have HC1 := Lib.hid C1
       have HR := Lib.hid r1
       clear C1 O1 l1 u1 r1)
    | (go_at_call 25; refine (ok25 _ b _ HC1.out).mono ?_; rintro e w3 ⟨rfl, rfl⟩))
  go_ret
  refine ⟨_, rfl, fun h => ?_, HB.out⟩
  have h0 : 0 ≤ b := by simpa using h
  have h1 := HR.out h0
  unfold Records_P
  omega

def fewN (l : List S60) : Nat := (l.map fun o => partsIs o.f2 + partsRs o.f3).sum
set_option maxRecDepth 100000 in
set_option maxHeartbeats 8000000 in
theorem few20 (l : List S60) (A : Option Addr) (c : Nat) (w : World) (hC : Kd.C k60 w A l.length l) (hl : ∀ o ∈ l, (∀ y ∈ o.f2, lenR y.f1) ∧ (∀ y ∈ o.f3, lenR y)) :
    Calls Try.prog 20 #[.slice A l.length c] w fun e w' => ∃ b, e = .returned (.bool b) ∧ (b = true → fewN l ≤ 10000) ∧ Below w.heap.size w w' := by
  obtain ⟨n, hn⟩ : ∃ n, n = l.length := ⟨_, rfl⟩
  have Hn := Lib.hid hn
  have HC := Lib.hid hC
  have HL := Lib.hid hl
  have hmax : n ≤ 9223372036854775807 := by rw [hn]; exact Kd.C_max hC
  rw [← hn]
  clear hC hl hn
  go_enter Try.func20, Try.ntmps20
  go_wp2_with (go_at_call 23; refine (new23 _).mono ?_; rintro e w1 ⟨rfl, rfl⟩)
  go_loopw [4] (fun v4 wr => ∃ k : Nat, k ≤ n ∧ v4 = .int .i64 k ∧ ∃ b, Hid (CntAt wr w.heap.size b) ∧ Hid (Below w.heap.size w wr) ∧ Hid (-9223372036854775807 ≤ b ∧ b ≤ 10000 ∧ (0 ≤ b → b = 10000 - (((l.take k).map fun o => partsIs o.f2 + partsRs o.f3).sum : Nat)))) (fun v4 _ => n - (intOf v4).toNat)
  case atStart =>
    exact ⟨0, Nat.zero_le _, rfl, 10000, blk_new _ _, (Below.refl _ _).alloc (Nat.le_refl _) _, by decide, by decide, fun h => by simp⟩
  case round =>
    obtain ⟨k, hk, rfl, b, HA, HB, HR⟩ := hrel
    by_cases hlt : k < n
    · by_cases hb : 0 ≤ b
      · have HOK := Lib.hid (ok_yes w.heap.size b wr HA.out hb)
        obtain ⟨ad, A2, c2, A3, c3, rfl, e0, e1, e2, e3, hl2, hC2, hl3, hC3⟩ := at_T60 HC.out (k : Int) (by omega) (by rw [← Hn.out]; omega)
        have hmem : rd_T60 l (k : Int) ∈ l := getD_mem _ _ _ (by rw [Int.toNat_natCast, ← Hn.out]; exact hlt)
        have hsum := sum_take_succ (fun o : S60 => partsIs o.f2 + partsRs o.f3) l z60 k (by rw [← Hn.out]; exact hlt)
        have hrd : rd_T60 l (k : Int) = l.getD k z60 := by unfold rd_T60; rw [Int.toNat_natCast]
        rw [← hrd] at hsum
        clear hrd
        generalize rd_T60 l (k : Int) = o at *
        have HS := Lib.hid hsum
        rw [Int.toNat_natCast] at e0 e1 e2 e3
        replace e2 := pw_cell_below HB.out e2
        have E3 := Lib.hid (pw_cell_below HB.out e3)
        have hsz := HB.out.size
        have Hsz := Lib.hid hsz
        have HY := Lib.hid (items24 o.f2 w w.heap.size b A2 c2 wr HA.out hC2 HB.out (Nat.le_refl _) HR.out.1 HR.out.2.1 (HL.out o hmem).1)
        have HC3 := Lib.hid hC3
        have HL3 := Lib.hid (HL.out o hmem).2
        have Had := Lib.hid (World.block_lt_of_cell? w _ e0)
        have hb2 : 0 ≤ b := hb
        clear hmem hsum e0 e1 e3 hC2 hl2 hC3 hl3 hb hsz
        go_wp2_with (first
          | (go_at_call 25; refine HOK.out.mono ?_; rintro e w2 ⟨rfl, rfl⟩)
          | (go_at_call 24; refine HY.out.mono ?_; rintro e w2 ⟨rfl, b1, C1, O1, l1, u1, r1⟩
             have C1' := Lib.hid C1
             have O1' := Lib.hid O1
             have HB2 : Hid (Below w.heap.size w w2) := HB.out.trans (O1.below (Nat.le_refl _) Hsz.out)
             have R1' := Lib.hid (And.intro l1 (And.intro u1 r1))
             have e3' := O1.cell E3.out (by have := Had.out; simp only [] at this ⊢; omega)
             clear C1 O1 l1 u1 r1)
          | (go_at_call 30; refine (records30 o.f3 w w.heap.size b1 A3 c3 w2 C1'.out HC3.out HB2.out (Nat.le_refl _) R1'.out.1 (Int.le_trans R1'.out.2.1 HR.out.2.1) HL3.out).mono ?_; rintro e w3 ⟨rfl, b2, C2, O2, l2, u2, r2⟩
             have C2' := Lib.hid C2
             have HB3 : Hid (Below w.heap.size w w3) := HB2.out.trans (O2.below (Nat.le_refl _) HB2.out.size)
             have R2' := Lib.hid (And.intro l2 (And.intro u2 r2))
             clear C2 O2 l2 u2 r2))
        go_roundw
        case rel =>
          refine ⟨k + 1, by omega, by go_num, b2, C2'.out, HB3.out, R2'.out.1, Int.le_trans R2'.out.2.1 (Int.le_trans R1'.out.2.1 HR.out.2.1), fun h => ?_⟩
          have h1 := R2'.out.2.2 h
          have h3 := R1'.out.2.2 (by have := R2'.out.2.1; omega)
          have h2 := HR.out.2.2 hb2
          rw [HS.out, h1, h3, h2]
          omega
        case measure => simp [intOf]; omega
      · have HOK := Lib.hid (ok_no w.heap.size b wr HA.out (by omega))
        go_wp2_with (go_at_call 25; refine HOK.out.mono ?_; rintro e w2 ⟨rfl, rfl⟩)
        go_ret
        exact ⟨false, rfl, (fun h => by cases h), HB.out⟩
    · have HOK := Lib.hid (ok25 w.heap.size b wr HA.out)
      go_wp2_with (go_at_call 25; refine HOK.out.mono ?_; rintro e w2 ⟨rfl, rfl⟩)
      go_ret
      refine ⟨_, rfl, fun h => ?_, HB.out⟩
      obtain rfl : k = n := by omega
      have h0 : 0 ≤ b := by simpa using h
      have h1 := HR.out.2.2 h0
      rw [List.take_of_length_le (by rw [Hn.out]; exact Nat.le_refl _)] at h1
      unfold fewN
      omega
end Go.Proofs.Ytcbfddhdaamimaa.PLaneFifo
