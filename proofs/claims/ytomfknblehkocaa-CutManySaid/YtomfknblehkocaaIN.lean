/- inside: true only where all that the calls are handed has few parts. -/
import Derived.Test.YtomfknblehkocaaSZ
namespace Go.Proofs.Ytomfknblehkocaa.C
open Go.RowKit Go.Proofs.YtomfknblehkocaaW.PrintWords Go.Proofs.YtomfknblehkocaaW.PrintLast
set_option linter.unusedVariables false
set_option linter.unusedSimpArgs false
def partsO (y : S47) : Nat := partsR y.f4 + partsC y.f7.f1 + partsRs y.f5 + partsRs y.f6
def lenO (y : S47) : Prop := lenR y.f4 ∧ (∀ r ∈ y.f5, lenR r) ∧ (∀ r ∈ y.f6, lenR r)
def partsOs (l : List S47) : Nat := (l.map partsO).sum
def InsideAns (l : List S47) (e : Ending) : Prop := ∃ b, e = .returned (.bool b) ∧ (b = true → partsOs l ≤ 10000)
set_option maxRecDepth 100000 in
set_option maxHeartbeats 4000000 in
theorem inside17 (l : List S47) (A : Option Addr) (c : Nat) (w : World) (hC : Kd.C k47 w A l.length l) (hl : ∀ y ∈ l, lenO y) :
    Calls Try.prog 17 #[.slice A l.length c] w fun e w' => InsideAns l e ∧ Hid (Below w.heap.size w w') := by
  obtain ⟨n, hn⟩ : ∃ n, n = l.length := ⟨_, rfl⟩
  have Hn := Lib.hid hn
  have HC := Lib.hid hC
  have Hl := Lib.hid hl
  have hmax : n ≤ 9223372036854775807 := by rw [hn]; exact Kd.C_max hC
  rw [← hn]
  clear hC hn hl
  go_enter Try.func17, Try.ntmps17
  go_wp2_with (go_at_call 34; refine (new34 _).mono ?_; rintro e w' ⟨rfl, rfl⟩)
  go_loopw [4] (fun v4 wr => ∃ k : Nat, k ≤ n ∧ v4 = .int .i64 k ∧ ∃ b, Hid (CntAt wr w.heap.size b) ∧ Hid (Below w.heap.size w wr) ∧ Hid (-9223372036854775807 ≤ b ∧ b ≤ 10000 ∧ (0 ≤ b → b = 10000 - (((l.take k).map partsO).sum : Nat)))) (fun v4 _ => n - (intOf v4).toNat)
  case atStart =>
    exact ⟨0, Nat.zero_le _, rfl, 10000, blk_new _ _, (Below.refl _ _).alloc (Nat.le_refl _) _, by omega, by omega, fun h => by simp⟩
  case round =>
    obtain ⟨k, hk, rfl, b, HA, HB, HR⟩ := hrel
    by_cases hlt : k < n
    · by_cases hb : 0 ≤ b
      · have HOK := Lib.hid (ok_yes w.heap.size b wr HA.out hb)
        obtain ⟨ad, A8, c8, A9, c9, A10, c10, A11, c11, A13, c13, rfl, e0, e1, e2, e3, e4, e5, e6, e7, e8, e9, e10, e11, e12, e13, hl8, hC8, hl9, hC9, hl10, hC10, hl11, hC11, hl13, hC13⟩ := at_T47 HC.out (k : Int) (by omega) (by rw [← Hn.out]; omega)
        have hmem : rd_T47 l (k : Int) ∈ l := getD_mem _ _ _ (by rw [Int.toNat_natCast, ← Hn.out]; exact hlt)
        have hsum := sum_take_succ partsO l z47 k (by rw [← Hn.out]; exact hlt)
        have hrd : rd_T47 l (k : Int) = l.getD k z47 := by unfold rd_T47; rw [Int.toNat_natCast]
        rw [← hrd] at hsum
        clear hrd
        generalize rd_T47 l (k : Int) = y at *
        have HS := Lib.hid hsum
        have hlen := Hl.out y hmem
        have Hlen := Lib.hid hlen
        rw [Int.toNat_natCast] at e0 e1 e2 e3 e4 e5 e6 e7 e8 e9 e10 e11 e12 e13
        replace e0 := pw_cell_below HB.out e0
        replace e1 := pw_cell_below HB.out e1
        replace e2 := pw_cell_below HB.out e2
        replace e3 := pw_cell_below HB.out e3
        replace e4 := pw_cell_below HB.out e4
        replace e5 := pw_cell_below HB.out e5
        replace e6 := pw_cell_below HB.out e6
        replace e7 := pw_cell_below HB.out e7
        replace e8 := pw_cell_below HB.out e8
        replace e9 := pw_cell_below HB.out e9
        replace e10 := pw_cell_below HB.out e10
        replace e11 := pw_cell_below HB.out e11
        replace e12 := pw_cell_below HB.out e12
        replace e13 := pw_cell_below HB.out e13
        have HC8 := Lib.hid hC8
        have Hl8 := Lib.hid hl8
        have HC9 := Lib.hid hC9
        have HC10 := Lib.hid hC10
        have HC11 := Lib.hid hC11
        have HC13 := Lib.hid hC13
        have hb2 : 0 ≤ b := hb
        have Hgw : Hid (w.heap.size < wr.heap.size) := blk_lt HA.out
        clear hmem hsum hlen hC8 hl8 hC9 hl9 hC10 hl10 hC11 hl11 hC13 hl13 hb
        go_wp2_with (go_at_call 35; refine HOK.out.mono ?_; rintro e w2 ⟨rfl, rfl⟩)
        have HBx : Hid (Below w.heap.size w (wr.alloc (.cells #[.int .i64 y.f0, .int .i64 y.f1, .int .i64 y.f2, .int .i64 y.f3, .string y.f4.f0, .int .i64 y.f4.f1.f0, .int .i64 y.f4.f1.f1, .string y.f4.f1.f2, .slice A8 y.f4.f1.f3.length c8, .slice A9 y.f4.f2.length c9, .slice A10 y.f5.length c10, .slice A11 y.f6.length c11, .int .i64 y.f7.f0, .slice A13 y.f7.f1.length c13] 47))) := HB.out.alloc HB.out.size _
        have HAx : Hid (CntAt (wr.alloc (.cells #[.int .i64 y.f0, .int .i64 y.f1, .int .i64 y.f2, .int .i64 y.f3, .string y.f4.f0, .int .i64 y.f4.f1.f0, .int .i64 y.f4.f1.f1, .string y.f4.f1.f2, .slice A8 y.f4.f1.f3.length c8, .slice A9 y.f4.f2.length c9, .slice A10 y.f5.length c10, .slice A11 y.f6.length c11, .int .i64 y.f7.f0, .slice A13 y.f7.f1.length c13] 47)) w.heap.size b) := blk_alloc HA.out _
        have BK : Hid ((wr.alloc (.cells #[.int .i64 y.f0, .int .i64 y.f1, .int .i64 y.f2, .int .i64 y.f3, .string y.f4.f0, .int .i64 y.f4.f1.f0, .int .i64 y.f4.f1.f1, .string y.f4.f1.f2, .slice A8 y.f4.f1.f3.length c8, .slice A9 y.f4.f2.length c9, .slice A10 y.f5.length c10, .slice A11 y.f6.length c11, .int .i64 y.f7.f0, .slice A13 y.f7.f1.length c13] 47)).heap[wr.heap.size]? = some (.cells #[.int .i64 y.f0, .int .i64 y.f1, .int .i64 y.f2, .int .i64 y.f3, .string y.f4.f0, .int .i64 y.f4.f1.f0, .int .i64 y.f4.f1.f1, .string y.f4.f1.f2, .slice A8 y.f4.f1.f3.length c8, .slice A9 y.f4.f2.length c9, .slice A10 y.f5.length c10, .slice A11 y.f6.length c11, .int .i64 y.f7.f0, .slice A13 y.f7.f1.length c13] 47 (0, 0))) := blk_new _ _
        have Hneq : Hid (wr.heap.size ≠ w.heap.size) := by show _ ≠ _; have := Hgw.out; omega
        refine (record36 y.f4 w w.heap.size b A8 c8 A9 c9 _ HAx.out HC8.out Hl8.out HC9.out HBx.out (Nat.le_refl _) HR.out.1 HR.out.2.1 Hlen.out.1).mono ?_
        rintro e w1 ⟨rfl, b1, C1, O1, l1, u1, r1⟩
        have C1' := Lib.hid C1
        have B1' : Hid (Below w.heap.size w w1) := HBx.out.trans (O1.below (Nat.le_refl _) HBx.out.size)
        have BK1 := Lib.hid ((O1.block _ (blk_lt BK.out) Hneq.out).trans BK.out)
        have R1' := Lib.hid (And.intro l1 (And.intro u1 r1))
        have x0 : w1.cell? ⟨wr.heap.size, 0, none⟩ = some (.int .i64 y.f0) := blk_at BK1.out 0 rfl
        have x1 : w1.cell? ⟨wr.heap.size, 1, none⟩ = some (.int .i64 y.f1) := blk_at BK1.out 1 rfl
        have x2 : w1.cell? ⟨wr.heap.size, 2, none⟩ = some (.int .i64 y.f2) := blk_at BK1.out 2 rfl
        have x3 : w1.cell? ⟨wr.heap.size, 3, none⟩ = some (.int .i64 y.f3) := blk_at BK1.out 3 rfl
        have x4 : w1.cell? ⟨wr.heap.size, 4, none⟩ = some (.string y.f4.f0) := blk_at BK1.out 4 rfl
        have x5 : w1.cell? ⟨wr.heap.size, 5, none⟩ = some (.int .i64 y.f4.f1.f0) := blk_at BK1.out 5 rfl
        have x6 : w1.cell? ⟨wr.heap.size, 6, none⟩ = some (.int .i64 y.f4.f1.f1) := blk_at BK1.out 6 rfl
        have x7 : w1.cell? ⟨wr.heap.size, 7, none⟩ = some (.string y.f4.f1.f2) := blk_at BK1.out 7 rfl
        have x8 : w1.cell? ⟨wr.heap.size, 8, none⟩ = some (.slice A8 y.f4.f1.f3.length c8) := blk_at BK1.out 8 rfl
        have x9 : w1.cell? ⟨wr.heap.size, 9, none⟩ = some (.slice A9 y.f4.f2.length c9) := blk_at BK1.out 9 rfl
        have x10 : w1.cell? ⟨wr.heap.size, 10, none⟩ = some (.slice A10 y.f5.length c10) := blk_at BK1.out 10 rfl
        have x11 : w1.cell? ⟨wr.heap.size, 11, none⟩ = some (.slice A11 y.f6.length c11) := blk_at BK1.out 11 rfl
        have x12 : w1.cell? ⟨wr.heap.size, 12, none⟩ = some (.int .i64 y.f7.f0) := blk_at BK1.out 12 rfl
        have x13 : w1.cell? ⟨wr.heap.size, 13, none⟩ = some (.slice A13 y.f7.f1.length c13) := blk_at BK1.out 13 rfl
        clear C1 O1 l1 u1 r1
        go_wp2_with fail
        refine (cells37 y.f7.f1 w w.heap.size b1 A13 c13 w1 C1'.out HC13.out B1'.out (Nat.le_refl _) R1'.out.1 (Int.le_trans R1'.out.2.1 HR.out.2.1)).mono ?_
        rintro e w2 ⟨rfl, b2, C2, O2, l2, u2, r2⟩
        have C2' := Lib.hid C2
        have B2' : Hid (Below w.heap.size w w2) := B1'.out.trans (O2.below (Nat.le_refl _) B1'.out.size)
        have BK2 := Lib.hid ((O2.block _ (blk_lt BK1.out) Hneq.out).trans BK1.out)
        have R2' := Lib.hid (And.intro l2 (And.intro u2 r2))
        have z0 : w2.cell? ⟨wr.heap.size, 0, none⟩ = some (.int .i64 y.f0) := blk_at BK2.out 0 rfl
        have z1 : w2.cell? ⟨wr.heap.size, 1, none⟩ = some (.int .i64 y.f1) := blk_at BK2.out 1 rfl
        have z2 : w2.cell? ⟨wr.heap.size, 2, none⟩ = some (.int .i64 y.f2) := blk_at BK2.out 2 rfl
        have z3 : w2.cell? ⟨wr.heap.size, 3, none⟩ = some (.int .i64 y.f3) := blk_at BK2.out 3 rfl
        have z4 : w2.cell? ⟨wr.heap.size, 4, none⟩ = some (.string y.f4.f0) := blk_at BK2.out 4 rfl
        have z5 : w2.cell? ⟨wr.heap.size, 5, none⟩ = some (.int .i64 y.f4.f1.f0) := blk_at BK2.out 5 rfl
        have z6 : w2.cell? ⟨wr.heap.size, 6, none⟩ = some (.int .i64 y.f4.f1.f1) := blk_at BK2.out 6 rfl
        have z7 : w2.cell? ⟨wr.heap.size, 7, none⟩ = some (.string y.f4.f1.f2) := blk_at BK2.out 7 rfl
        have z8 : w2.cell? ⟨wr.heap.size, 8, none⟩ = some (.slice A8 y.f4.f1.f3.length c8) := blk_at BK2.out 8 rfl
        have z9 : w2.cell? ⟨wr.heap.size, 9, none⟩ = some (.slice A9 y.f4.f2.length c9) := blk_at BK2.out 9 rfl
        have z10 : w2.cell? ⟨wr.heap.size, 10, none⟩ = some (.slice A10 y.f5.length c10) := blk_at BK2.out 10 rfl
        have z11 : w2.cell? ⟨wr.heap.size, 11, none⟩ = some (.slice A11 y.f6.length c11) := blk_at BK2.out 11 rfl
        have z12 : w2.cell? ⟨wr.heap.size, 12, none⟩ = some (.int .i64 y.f7.f0) := blk_at BK2.out 12 rfl
        have z13 : w2.cell? ⟨wr.heap.size, 13, none⟩ = some (.slice A13 y.f7.f1.length c13) := blk_at BK2.out 13 rfl
        clear C2 O2 l2 u2 r2
        go_wp2_with fail
        refine (records38 y.f5 w w.heap.size b2 A10 c10 w2 C2'.out HC10.out B2'.out (Nat.le_refl _) R2'.out.1 (Int.le_trans R2'.out.2.1 (Int.le_trans R1'.out.2.1 HR.out.2.1)) Hlen.out.2.1).mono ?_
        rintro e w3 ⟨rfl, b3, C3, O3, l3, u3, r3⟩
        have C3' := Lib.hid C3
        have B3' : Hid (Below w.heap.size w w3) := B2'.out.trans (O3.below (Nat.le_refl _) B2'.out.size)
        have BK3 := Lib.hid ((O3.block _ (blk_lt BK2.out) Hneq.out).trans BK2.out)
        have R3' := Lib.hid (And.intro l3 (And.intro u3 r3))
        have p0 : w3.cell? ⟨wr.heap.size, 0, none⟩ = some (.int .i64 y.f0) := blk_at BK3.out 0 rfl
        have p1 : w3.cell? ⟨wr.heap.size, 1, none⟩ = some (.int .i64 y.f1) := blk_at BK3.out 1 rfl
        have p2 : w3.cell? ⟨wr.heap.size, 2, none⟩ = some (.int .i64 y.f2) := blk_at BK3.out 2 rfl
        have p3 : w3.cell? ⟨wr.heap.size, 3, none⟩ = some (.int .i64 y.f3) := blk_at BK3.out 3 rfl
        have p4 : w3.cell? ⟨wr.heap.size, 4, none⟩ = some (.string y.f4.f0) := blk_at BK3.out 4 rfl
        have p5 : w3.cell? ⟨wr.heap.size, 5, none⟩ = some (.int .i64 y.f4.f1.f0) := blk_at BK3.out 5 rfl
        have p6 : w3.cell? ⟨wr.heap.size, 6, none⟩ = some (.int .i64 y.f4.f1.f1) := blk_at BK3.out 6 rfl
        have p7 : w3.cell? ⟨wr.heap.size, 7, none⟩ = some (.string y.f4.f1.f2) := blk_at BK3.out 7 rfl
        have p8 : w3.cell? ⟨wr.heap.size, 8, none⟩ = some (.slice A8 y.f4.f1.f3.length c8) := blk_at BK3.out 8 rfl
        have p9 : w3.cell? ⟨wr.heap.size, 9, none⟩ = some (.slice A9 y.f4.f2.length c9) := blk_at BK3.out 9 rfl
        have p10 : w3.cell? ⟨wr.heap.size, 10, none⟩ = some (.slice A10 y.f5.length c10) := blk_at BK3.out 10 rfl
        have p11 : w3.cell? ⟨wr.heap.size, 11, none⟩ = some (.slice A11 y.f6.length c11) := blk_at BK3.out 11 rfl
        have p12 : w3.cell? ⟨wr.heap.size, 12, none⟩ = some (.int .i64 y.f7.f0) := blk_at BK3.out 12 rfl
        have p13 : w3.cell? ⟨wr.heap.size, 13, none⟩ = some (.slice A13 y.f7.f1.length c13) := blk_at BK3.out 13 rfl
        clear C3 O3 l3 u3 r3
        go_wp2_with fail
        refine (records38 y.f6 w w.heap.size b3 A11 c11 w3 C3'.out HC11.out B3'.out (Nat.le_refl _) R3'.out.1 (Int.le_trans R3'.out.2.1 (Int.le_trans R2'.out.2.1 (Int.le_trans R1'.out.2.1 HR.out.2.1))) Hlen.out.2.2).mono ?_
        rintro e w4 ⟨rfl, b4, C4, O4, l4, u4, r4⟩
        have C4' := Lib.hid C4
        have B4' : Hid (Below w.heap.size w w4) := B3'.out.trans (O4.below (Nat.le_refl _) B3'.out.size)
        have R4' := Lib.hid (And.intro l4 (And.intro u4 r4))
        clear C4 O4 l4 u4 r4
        go_wp2
        go_roundw
        case rel =>
          have u1 := R1'.out.2.1
          have u2 := R2'.out.2.1
          have u3 := R3'.out.2.1
          have u4 := R4'.out.2.1
          have u0 := HR.out.2.1
          refine ⟨k + 1, by omega, by go_num, b4, C4'.out, B4'.out, R4'.out.1, by omega, fun h => ?_⟩
          have h4 := R4'.out.2.2 h
          have h3 := R3'.out.2.2 (by omega)
          have h2 := R2'.out.2.2 (by omega)
          have h1 := R1'.out.2.2 (by omega)
          have h0 := HR.out.2.2 hb2
          rw [HS.out]
          have hp : partsO y = partsR y.f4 + partsC y.f7.f1 + partsRs y.f5 + partsRs y.f6 := rfl
          omega
        case measure => simp [intOf]; omega
      · have HOK := Lib.hid (ok_no w.heap.size b wr HA.out (by omega))
        go_wp2_with (go_at_call 35; refine HOK.out.mono ?_; rintro e w2 ⟨rfl, rfl⟩)
        go_ret
        exact ⟨⟨_, rfl, fun h => by cases h⟩, HB⟩
    · obtain rfl : k = n := by omega
      by_cases hb : 0 ≤ b
      · have HOK := Lib.hid (ok_yes w.heap.size b wr HA.out hb)
        go_wp2_with (go_at_call 35; refine HOK.out.mono ?_; rintro e w2 ⟨rfl, rfl⟩)
        go_ret
        refine ⟨⟨_, rfl, fun _ => ?_⟩, HB⟩
        have h0 := HR.out.2.2 hb
        rw [List.take_of_length_le (by rw [Hn.out]; exact Nat.le_refl _)] at h0
        unfold partsOs
        omega
      · have HOK := Lib.hid (ok_no w.heap.size b wr HA.out (by omega))
        go_wp2_with (go_at_call 35; refine HOK.out.mono ?_; rintro e w2 ⟨rfl, rfl⟩)
        go_ret
        exact ⟨⟨_, rfl, fun h => by cases h⟩, HB⟩
end Go.Proofs.Ytomfknblehkocaa.C
