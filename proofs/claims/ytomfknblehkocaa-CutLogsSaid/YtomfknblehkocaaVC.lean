/- The statement's view: sees, the walk. -/
import Derived.Test.YtomfknblehkocaaVB
namespace Go.Proofs.Ytomfknblehkocaa.C
open Go.RowKit Go.Proofs.YtomfknblehkocaaW.PrintWords Go.Proofs.YtomfknblehkocaaW.PrintLast
set_option linter.unusedVariables false
set_option linter.unusedSimpArgs false
section
variable {w W : World} {base : Nat} {own : Nat → Nat} {g : Nat} {v : Vw} {va vp : Value} {lv : Nat → Value}
set_option maxRecDepth 100000 in
set_option maxHeartbeats 4000000 in
theorem sees21_fresh_true_log (h : VwAt w base own g v va vp lv) (hbase : base ≤ w.heap.size) (o : S47) (A8 : Option Addr) (c8 : Nat) (A9 : Option Addr) (c9 : Nat) (A10 : Option Addr) (c10 : Nat) (A11 : Option Addr) (c11 : Nat) (A13 : Option Addr) (c13 : Nat) (p : Nat) (hp4 : p < 4) (mode : Int) (a10 : Away k45 own w A10 o.f5) (l10 : o.f5.length ≤ c10) (a11 : Away k45 own w A11 o.f6) (l11 : o.f6.length ≤ c11) (a13 : Away k104 own w A13 o.f7.f1) (l13 : o.f7.f1.length ≤ c13) (hu : partsC o.f7.f1 ≤ 100000 ∧ partsRs o.f5 ≤ 100000 ∧ partsRs o.f6 ≤ 100000) (hlg : ∀ i, (v.logs.getD i []).length ≤ 1000000) (d1 : decide (o.f3 < v.id) = false) (d2 : (o.f3 == v.id) = false) (d3 : decide (v.id < o.f3) = true) (d5 : (mode == 3) = true) : Calls Try.prog 21 #[.pointer (some ⟨g, 0, none⟩), .agg #[.int .i64 o.f0, .int .i64 o.f1, .int .i64 p, .int .i64 o.f3, .string o.f4.f0, .int .i64 o.f4.f1.f0, .int .i64 o.f4.f1.f1, .string o.f4.f1.f2, .slice A8 o.f4.f1.f3.length c8, .slice A9 o.f4.f2.length c9, .slice A10 o.f5.length c10, .slice A11 o.f6.length c11, .int .i64 o.f7.f0, .slice A13 o.f7.f1.length c13], .bool true, .int .i64 mode] w fun e w' => e = .returned (.tuple #[]) ∧ VwPost base own g (((((Vw.fresh o.f3).cop.stt o.f7).pnd o.f6).close p).logged p o.f5) w w' := by
  have HV0 : Hid (VwAt (w.alloc (.cells #[.int .i64 o.f0, .int .i64 o.f1, .int .i64 p, .int .i64 o.f3, .string o.f4.f0, .int .i64 o.f4.f1.f0, .int .i64 o.f4.f1.f1, .string o.f4.f1.f2, .slice A8 o.f4.f1.f3.length c8, .slice A9 o.f4.f2.length c9, .slice A10 o.f5.length c10, .slice A11 o.f6.length c11, .int .i64 o.f7.f0, .slice A13 o.f7.f1.length c13] 47)) base own g v va vp lv) := h.below ((Below.refl _ _).alloc (Nat.le_refl _) _)
  have HUA : Hid (Upd own w own (w.alloc (.cells #[.int .i64 o.f0, .int .i64 o.f1, .int .i64 p, .int .i64 o.f3, .string o.f4.f0, .int .i64 o.f4.f1.f0, .int .i64 o.f4.f1.f1, .string o.f4.f1.f2, .slice A8 o.f4.f1.f3.length c8, .slice A9 o.f4.f2.length c9, .slice A10 o.f5.length c10, .slice A11 o.f6.length c11, .int .i64 o.f7.f0, .slice A13 o.f7.f1.length c13] 47))) := Upd.of_below ((Below.refl _ _).alloc (Nat.le_refl _) _) (fun _ _ => rfl)
  have HX0 : Hid (((w.alloc (.cells #[.int .i64 o.f0, .int .i64 o.f1, .int .i64 p, .int .i64 o.f3, .string o.f4.f0, .int .i64 o.f4.f1.f0, .int .i64 o.f4.f1.f1, .string o.f4.f1.f2, .slice A8 o.f4.f1.f3.length c8, .slice A9 o.f4.f2.length c9, .slice A10 o.f5.length c10, .slice A11 o.f6.length c11, .int .i64 o.f7.f0, .slice A13 o.f7.f1.length c13] 47))).heap[w.heap.size]? = some (.cells #[.int .i64 o.f0, .int .i64 o.f1, .int .i64 p, .int .i64 o.f3, .string o.f4.f0, .int .i64 o.f4.f1.f0, .int .i64 o.f4.f1.f1, .string o.f4.f1.f2, .slice A8 o.f4.f1.f3.length c8, .slice A9 o.f4.f2.length c9, .slice A10 o.f5.length c10, .slice A11 o.f6.length c11, .int .i64 o.f7.f0, .slice A13 o.f7.f1.length c13] 47 (0, 0))) := blk_new w _
  have HFR : Hid (own w.heap.size = 0) := h.free (Nat.le_refl _)
  have Hbase := Lib.hid hbase
  have hgl : g < w.heap.size := h.glt
  have c0 : w.cell? ⟨g, 0, none⟩ = some (.int .i64 v.id) := blk_at h.hb 0 rfl
  have cp := h.shutc p hp4
  have i1 : (0 : Int) ≤ (p : Int) := by omega
  have i2 : (p : Int) < 4 := by omega
  have A10' := Lib.hid a10
  have A11' := Lib.hid a11
  have A13' := Lib.hid a13
  have L10 := Lib.hid l10
  have L11 := Lib.hid l11
  have L13 := Lib.hid l13
  have HU' := Lib.hid hu
  have HLG := Lib.hid hlg
  clear h hbase a10 l10 a11 l11 a13 l13 hu hlg
  go_enter Try.func21, Try.ntmps21
  go_wp2
  go_quiet (fail)
  go_wp2
  go_quiet (fail)
  go_upto_region 3 with (fail)
  clear c0 cp d1 d2 d3
  refine wp_gen (fun W => VSt (w.alloc (.cells #[.int .i64 o.f0, .int .i64 o.f1, .int .i64 p, .int .i64 o.f3, .string o.f4.f0, .int .i64 o.f4.f1.f0, .int .i64 o.f4.f1.f1, .string o.f4.f1.f2, .slice A8 o.f4.f1.f3.length c8, .slice A9 o.f4.f2.length c9, .slice A10 o.f5.length c10, .slice A11 o.f6.length c11, .int .i64 o.f7.f0, .slice A13 o.f7.f1.length c13] 47)) W base own g v w.heap.size (.cells #[.int .i64 o.f0, .int .i64 o.f1, .int .i64 p, .int .i64 o.f3, .string o.f4.f0, .int .i64 o.f4.f1.f0, .int .i64 o.f4.f1.f1, .string o.f4.f1.f2, .slice A8 o.f4.f1.f3.length c8, .slice A9 o.f4.f2.length c9, .slice A10 o.f5.length c10, .slice A11 o.f6.length c11, .int .i64 o.f7.f0, .slice A13 o.f7.f1.length c13] 47 (0, 0))) ?_ ?_
  · exact ⟨own, va, vp, lv, HV0.out.below (pw_below_drewN (pw_below_drewN (Below.refl _ _) _) _), Upd.of_below (pw_below_drewN (pw_below_drewN (Below.refl _ _) _) _) (fun _ _ => rfl), HX0.out, HFR.out, Nat.le_trans Hbase.out (by simp)⟩
  intro W1 ⟨o1, va1, vp1, lv1, hV1, hU1, hbx1, hob1, hbs1⟩
  have x3 : W1.cell? ⟨w.heap.size, 3, none⟩ = some (.int .i64 o.f3) := blk_at hbx1 3 rfl
  have y0 : W1.cell? ⟨g, 0, none⟩ = some (.int .i64 v.id) := blk_at hV1.hb 0 rfl
  have z0 : W1.frozen? ⟨g, 0, none⟩ = false := blk_frozen hV1.hb 0
  have y1 : W1.cell? ⟨g, 1, none⟩ = some (.bool v.copied) := blk_at hV1.hb 1 rfl
  have z1 : W1.frozen? ⟨g, 1, none⟩ = false := blk_frozen hV1.hb 1
  have y2 : W1.cell? ⟨g, 2, none⟩ = some (.int .i64 v.st.f0) := blk_at hV1.hb 2 rfl
  have z2 : W1.frozen? ⟨g, 2, none⟩ = false := blk_frozen hV1.hb 2
  have y3 : W1.cell? ⟨g, 3, none⟩ = some (va1) := blk_at hV1.hb 3 rfl
  have z3 : W1.frozen? ⟨g, 3, none⟩ = false := blk_frozen hV1.hb 3
  have y4 : W1.cell? ⟨g, 4, none⟩ = some (vp1) := blk_at hV1.hb 4 rfl
  have z4 : W1.frozen? ⟨g, 4, none⟩ = false := blk_frozen hV1.hb 4
  have y5 : W1.cell? ⟨g, 5, none⟩ = some (.bool (v.shut 0)) := blk_at hV1.hb 5 rfl
  have z5 : W1.frozen? ⟨g, 5, none⟩ = false := blk_frozen hV1.hb 5
  have y6 : W1.cell? ⟨g, 6, none⟩ = some (.bool (v.shut 1)) := blk_at hV1.hb 6 rfl
  have z6 : W1.frozen? ⟨g, 6, none⟩ = false := blk_frozen hV1.hb 6
  have y7 : W1.cell? ⟨g, 7, none⟩ = some (.bool (v.shut 2)) := blk_at hV1.hb 7 rfl
  have z7 : W1.frozen? ⟨g, 7, none⟩ = false := blk_frozen hV1.hb 7
  have y8 : W1.cell? ⟨g, 8, none⟩ = some (.bool (v.shut 3)) := blk_at hV1.hb 8 rfl
  have z8 : W1.frozen? ⟨g, 8, none⟩ = false := blk_frozen hV1.hb 8
  have y9 : W1.cell? ⟨g, 9, none⟩ = some (lv1 0) := blk_at hV1.hb 9 rfl
  have z9 : W1.frozen? ⟨g, 9, none⟩ = false := blk_frozen hV1.hb 9
  have y10 : W1.cell? ⟨g, 10, none⟩ = some (lv1 1) := blk_at hV1.hb 10 rfl
  have z10 : W1.frozen? ⟨g, 10, none⟩ = false := blk_frozen hV1.hb 10
  have y11 : W1.cell? ⟨g, 11, none⟩ = some (lv1 2) := blk_at hV1.hb 11 rfl
  have z11 : W1.frozen? ⟨g, 11, none⟩ = false := blk_frozen hV1.hb 11
  have y12 : W1.cell? ⟨g, 12, none⟩ = some (lv1 3) := blk_at hV1.hb 12 rfl
  have z12 : W1.frozen? ⟨g, 12, none⟩ = false := blk_frozen hV1.hb 12
  have y13 : W1.cell? ⟨g, 13, none⟩ = some (.bool v.handed) := blk_at hV1.hb 13 rfl
  have z13 : W1.frozen? ⟨g, 13, none⟩ = false := blk_frozen hV1.hb 13
  have FD1 := Lib.hid (hV1.freshd o.f3)
  go_upto_region 4 with (fail)
  clear x3 y0 z0 y1 z1 y2 z2 y3 z3 y4 z4 y5 z5 y6 z6 y7 z7 y8 z8 y9 z9 y10 z10 y11 z11 y12 z12 y13 z13
  refine wp_gen (fun W => VSt (w.alloc (.cells #[.int .i64 o.f0, .int .i64 o.f1, .int .i64 p, .int .i64 o.f3, .string o.f4.f0, .int .i64 o.f4.f1.f0, .int .i64 o.f4.f1.f1, .string o.f4.f1.f2, .slice A8 o.f4.f1.f3.length c8, .slice A9 o.f4.f2.length c9, .slice A10 o.f5.length c10, .slice A11 o.f6.length c11, .int .i64 o.f7.f0, .slice A13 o.f7.f1.length c13] 47)) W base own g (Vw.fresh o.f3) w.heap.size (.cells #[.int .i64 o.f0, .int .i64 o.f1, .int .i64 p, .int .i64 o.f3, .string o.f4.f0, .int .i64 o.f4.f1.f0, .int .i64 o.f4.f1.f1, .string o.f4.f1.f2, .slice A8 o.f4.f1.f3.length c8, .slice A9 o.f4.f2.length c9, .slice A10 o.f5.length c10, .slice A11 o.f6.length c11, .int .i64 o.f7.f0, .slice A13 o.f7.f1.length c13] 47 (0, 0))) ?_ ?_
  · exact ⟨_, _, _, _, FD1.out.1, hU1.trans FD1.out.2, (FD1.out.2.block _ (blk_lt hbx1) hob1).trans hbx1, (FD1.out.2).same _ (blk_lt hbx1) hob1, Nat.le_trans hbs1 (FD1.out.2).size⟩
  intro W2 ⟨o2, va2, vp2, lv2, hV2, hU2, hbx2, hob2, hbs2⟩
  have y1 : W2.cell? ⟨g, 1, none⟩ = some (.bool (Vw.fresh o.f3).copied) := blk_at hV2.hb 1 rfl
  have z1 : W2.frozen? ⟨g, 1, none⟩ = false := blk_frozen hV2.hb 1
  have hog2 : o2 g ≠ 0 := by have := hV2.og; omega
  have UD2 := Lib.hid ((Upd.refl o2 W2).set (p := ⟨g, 1, none⟩) hog2 (.bool true))
  go_upto_region 6 with (fail)
  clear y1 z1
  refine wp_gen (fun W => VSt (w.alloc (.cells #[.int .i64 o.f0, .int .i64 o.f1, .int .i64 p, .int .i64 o.f3, .string o.f4.f0, .int .i64 o.f4.f1.f0, .int .i64 o.f4.f1.f1, .string o.f4.f1.f2, .slice A8 o.f4.f1.f3.length c8, .slice A9 o.f4.f2.length c9, .slice A10 o.f5.length c10, .slice A11 o.f6.length c11, .int .i64 o.f7.f0, .slice A13 o.f7.f1.length c13] 47)) W base own g (Vw.fresh o.f3).cop w.heap.size (.cells #[.int .i64 o.f0, .int .i64 o.f1, .int .i64 p, .int .i64 o.f3, .string o.f4.f0, .int .i64 o.f4.f1.f0, .int .i64 o.f4.f1.f1, .string o.f4.f1.f2, .slice A8 o.f4.f1.f3.length c8, .slice A9 o.f4.f2.length c9, .slice A10 o.f5.length c10, .slice A11 o.f6.length c11, .int .i64 o.f7.f0, .slice A13 o.f7.f1.length c13] 47 (0, 0))) ?_ ?_
  · exact ⟨_, _, _, _, hV2.setCop, hU2.trans UD2.out, (UD2.out.block _ (blk_lt hbx2) hob2).trans hbx2, (UD2.out).same _ (blk_lt hbx2) hob2, Nat.le_trans hbs2 (UD2.out).size⟩
  intro W3 ⟨o3, va3, vp3, lv3, hV3, hU3, hbx3, hob3, hbs3⟩
  have x12 : W3.cell? ⟨w.heap.size, 12, none⟩ = some (.int .i64 o.f7.f0) := blk_at hbx3 12 rfl
  have x13 : W3.cell? ⟨w.heap.size, 13, none⟩ = some (.slice A13 o.f7.f1.length c13) := blk_at hbx3 13 rfl
  have HC43 := Lib.hid (copyState43 o.f7 A13 c13 W3 (A13'.out _ _ (HUA.out.trans hU3)) L13.out HU'.out.1)
  go_upto_region 7 with (first
          | (go_at_call 43; refine HC43.out.mono ?_; rintro e w2 ⟨u, rfl, hu2, hb2⟩
             obtain ⟨Bu, du, rfl⟩ := Kd.R_slice hu2.out
             have GR3 := Lib.hid (hV3.grow hbs3 hb2.out 4)
             have y2 : w2.cell? ⟨g, 2, none⟩ = some (.int .i64 (Vw.fresh o.f3).cop.st.f0) := blk_at GR3.out.1.hb 2 rfl
             have z2 : w2.frozen? ⟨g, 2, none⟩ = false := blk_frozen GR3.out.1.hb 2
             have y3 : w2.cell? ⟨g, 3, none⟩ = some (va3) := blk_at GR3.out.1.hb 3 rfl
             have z3 : w2.frozen? ⟨g, 3, none⟩ = false := blk_frozen GR3.out.1.hb 3
             have HRU := Lib.hid (R_tagged (own := o3) (t := 4) hu2.out hbs3)
             clear hu2 hb2))
  clear x12 x13 y2 z2 y3 z3 HC43
  have hogg : tagged o3 W3.heap.size w2.heap.size 4 g ≠ 0 := by have := GR3.out.1.og; omega
  have UE3 : Upd o3 W3 _ _ := GR3.out.2.trans (((Upd.refl _ w2).set (p := ⟨g, 2, none⟩) hogg (.int .i64 o.f7.f0)).set (p := ⟨g, 3, none⟩) hogg (.slice Bu o.f7.f1.length du))
  refine wp_gen (fun W => VSt (w.alloc (.cells #[.int .i64 o.f0, .int .i64 o.f1, .int .i64 p, .int .i64 o.f3, .string o.f4.f0, .int .i64 o.f4.f1.f0, .int .i64 o.f4.f1.f1, .string o.f4.f1.f2, .slice A8 o.f4.f1.f3.length c8, .slice A9 o.f4.f2.length c9, .slice A10 o.f5.length c10, .slice A11 o.f6.length c11, .int .i64 o.f7.f0, .slice A13 o.f7.f1.length c13] 47)) W base own g ((Vw.fresh o.f3).cop.stt o.f7) w.heap.size (.cells #[.int .i64 o.f0, .int .i64 o.f1, .int .i64 p, .int .i64 o.f3, .string o.f4.f0, .int .i64 o.f4.f1.f0, .int .i64 o.f4.f1.f1, .string o.f4.f1.f2, .slice A8 o.f4.f1.f3.length c8, .slice A9 o.f4.f2.length c9, .slice A10 o.f5.length c10, .slice A11 o.f6.length c11, .int .i64 o.f7.f0, .slice A13 o.f7.f1.length c13] 47 (0, 0))) ?_ ?_
  · exact ⟨_, _, _, _, GR3.out.1.setSt HRU.out, hU3.trans UE3, (UE3.block _ (blk_lt hbx3) hob3).trans hbx3, (UE3).same _ (blk_lt hbx3) hob3, Nat.le_trans hbs3 (UE3).size⟩
  clear GR3 HRU hogg UE3
  intro W4 ⟨o4, va4, vp4, lv4, hV4, hU4, hbx4, hob4, hbs4⟩
  have x11 : W4.cell? ⟨w.heap.size, 11, none⟩ = some (.slice A11 o.f6.length c11) := blk_at hbx4 11 rfl
  have HC44 := Lib.hid (copyRecords44 o.f6 A11 c11 W4 (A11'.out _ _ (HUA.out.trans hU4)) L11.out HU'.out.2.2)
  go_upto_region 8 with (first
          | (go_at_call 44; refine HC44.out.mono ?_; rintro e w2 ⟨u, rfl, hu2, hb2⟩
             obtain ⟨Bu, du, rfl⟩ := Kd.R_slice hu2.out
             have GR4 := Lib.hid (hV4.grow hbs4 hb2.out 5)
             have y4 : w2.cell? ⟨g, 4, none⟩ = some (vp4) := blk_at GR4.out.1.hb 4 rfl
             have z4 : w2.frozen? ⟨g, 4, none⟩ = false := blk_frozen GR4.out.1.hb 4
             have HRU := Lib.hid (R_tagged (own := o4) (t := 5) hu2.out hbs4)
             clear hu2 hb2))
  clear x11 y4 z4 HC44
  have hogg : tagged o4 W4.heap.size w2.heap.size 5 g ≠ 0 := by have := GR4.out.1.og; omega
  have UE4 : Upd o4 W4 _ _ := GR4.out.2.trans ((Upd.refl _ w2).set (p := ⟨g, 4, none⟩) hogg (.slice Bu o.f6.length du))
  refine wp_gen (fun W => VSt (w.alloc (.cells #[.int .i64 o.f0, .int .i64 o.f1, .int .i64 p, .int .i64 o.f3, .string o.f4.f0, .int .i64 o.f4.f1.f0, .int .i64 o.f4.f1.f1, .string o.f4.f1.f2, .slice A8 o.f4.f1.f3.length c8, .slice A9 o.f4.f2.length c9, .slice A10 o.f5.length c10, .slice A11 o.f6.length c11, .int .i64 o.f7.f0, .slice A13 o.f7.f1.length c13] 47)) W base own g (((Vw.fresh o.f3).cop.stt o.f7).pnd o.f6) w.heap.size (.cells #[.int .i64 o.f0, .int .i64 o.f1, .int .i64 p, .int .i64 o.f3, .string o.f4.f0, .int .i64 o.f4.f1.f0, .int .i64 o.f4.f1.f1, .string o.f4.f1.f2, .slice A8 o.f4.f1.f3.length c8, .slice A9 o.f4.f2.length c9, .slice A10 o.f5.length c10, .slice A11 o.f6.length c11, .int .i64 o.f7.f0, .slice A13 o.f7.f1.length c13] 47 (0, 0))) ?_ ?_
  · exact ⟨_, _, _, _, GR4.out.1.setPnd HRU.out, hU4.trans UE4, (UE4.block _ (blk_lt hbx4) hob4).trans hbx4, (UE4).same _ (blk_lt hbx4) hob4, Nat.le_trans hbs4 (UE4).size⟩
  clear GR4 HRU hogg UE4
  intro W5 ⟨o5, va5, vp5, lv5, hV5, hU5, hbx5, hob5, hbs5⟩
  refine start_ (n := 7) (S := (fun w' => w'.cell? ⟨w.heap.size, 2, none⟩ = some (.int .i64 p))) (ds := [6]) #[false, false, false, false, false, false, false] (by kernel_rfl) rfl rfl (show W5.drew.cell? _ = _ from blk_at hbx5 2 rfl) (fun hHeld => ?_)
  refine pure_ (i := 0) (N := some 61) (v := ?_) (a' := ?_) #[true, false, false, false, false, false, false] rfl rfl (by kernel_rfl) (fun _ _ _ h => h) (Or.inl ⟨by rfl, ?_⟩) ?_ ?_
  rotate_left
  · intro w'
    go_simp
    with_reducible rfl
  rotate_left
  · simp only [Act.put, List.setIfInBounds_toArray, List.set_cons_zero, List.set_cons_succ]
    rfl
  refine pure_ (i := 1) (N := some 62) (v := ?_) (a' := ?_) #[true, true, false, false, false, false, false] rfl rfl (by kernel_rfl) (fun _ _ _ h => h) (Or.inl ⟨by rfl, ?_⟩) ?_ ?_
  rotate_left
  · intro w'
    go_simp
    with_reducible rfl
  rotate_left
  · simp only [Act.put, List.setIfInBounds_toArray, List.set_cons_zero, List.set_cons_succ]
    rfl
  refine take_ (i := 2) (N := some 63) (v := ?_) (a' := ?_) #[true, true, true, false, false, false, false] rfl rfl (by kernel_rfl) (fun _ _ _ h => h) (Or.inl ⟨by rfl, ?_⟩) hHeld ?_ ?_
  rotate_left
  · intro w' s0
    go_simp
    with_reducible rfl
  rotate_left
  · simp only [Act.put, List.setIfInBounds_toArray, List.set_cons_zero, List.set_cons_succ]
    rfl
  refine pure_ (i := 3) (N := some 64) (v := ?_) (a' := ?_) #[true, true, true, true, false, false, false] rfl rfl (by kernel_rfl) (fun _ _ _ h => h) (Or.inl ⟨by rfl, ?_⟩) ?_ ?_
  rotate_left
  · intro w'
    go_simp
    with_reducible rfl
  rotate_left
  · simp only [Act.put, List.setIfInBounds_toArray, List.set_cons_zero, List.set_cons_succ]
    rfl
  refine pure_ (i := 4) (N := some 65) (v := ?_) (a' := ?_) #[true, true, true, true, true, false, false] rfl rfl (by kernel_rfl) (fun _ _ _ h => h) (Or.inl ⟨by rfl, ?_⟩) ?_ ?_
  rotate_left
  · intro w'
    go_simp
    with_reducible rfl
  rotate_left
  · simp only [Act.put, List.setIfInBounds_toArray, List.set_cons_zero, List.set_cons_succ]
    rfl
  refine pure_ (i := 5) (N := some 66) (v := ?_) (a' := ?_) #[true, true, true, true, true, true, false] rfl rfl (by kernel_rfl) (fun _ _ _ h => h) (Or.inl ⟨by rfl, ?_⟩) ?_ ?_
  rotate_left
  · intro w'
    go_simp
    with_reducible rfl
  rotate_left
  · simp only [Act.put, List.setIfInBounds_toArray, List.set_cons_zero, List.set_cons_succ]
    rfl
  refine last_ (i := 6) (N := none) #[true, true, true, true, true, true, true] rfl rfl (by kernel_rfl) (by decide) (fun K hK => ?_)
  have hs := (show VwAt W5.drew base o5 g (((Vw.fresh o.f3).cop.stt o.f7).pnd o.f6) va5 vp5 lv5 from hV5.below (Below.refl _ _).drew).shutc p hp4
  have hf : W5.drew.frozen? ⟨g, 5 + p, none⟩ = false := blk_frozen (hV5.below (Below.refl _ _).drew).hb (5 + p)
  refine skip_ (w1 := ?_) (by rfl) rfl ?_ ?_
  rotate_left
  · go_simp
    rfl
  refine hK.out _ _ ?_
  clear hK K hs hf
  refine done_ (by kernel_rfl) ?_
  clear hHeld
  have hog5 : o5 g ≠ 0 := by have := hV5.og; omega
  have HVd := Lib.hid ((hV5.below (Below.refl _ _).drew).setShut p hp4)
  have UD5 : Hid (Upd o5 W5 o5 _) := (Upd.of_below (Below.refl _ _).drew (fun _ _ => rfl)).set (p := ⟨g, 5 + p, none⟩) hog5 (.bool true)
  go_upto_region 9 with (fail)
  refine wp_gen (fun W => VSt (w.alloc (.cells #[.int .i64 o.f0, .int .i64 o.f1, .int .i64 p, .int .i64 o.f3, .string o.f4.f0, .int .i64 o.f4.f1.f0, .int .i64 o.f4.f1.f1, .string o.f4.f1.f2, .slice A8 o.f4.f1.f3.length c8, .slice A9 o.f4.f2.length c9, .slice A10 o.f5.length c10, .slice A11 o.f6.length c11, .int .i64 o.f7.f0, .slice A13 o.f7.f1.length c13] 47)) W base own g ((((Vw.fresh o.f3).cop.stt o.f7).pnd o.f6).close p) w.heap.size (.cells #[.int .i64 o.f0, .int .i64 o.f1, .int .i64 p, .int .i64 o.f3, .string o.f4.f0, .int .i64 o.f4.f1.f0, .int .i64 o.f4.f1.f1, .string o.f4.f1.f2, .slice A8 o.f4.f1.f3.length c8, .slice A9 o.f4.f2.length c9, .slice A10 o.f5.length c10, .slice A11 o.f6.length c11, .int .i64 o.f7.f0, .slice A13 o.f7.f1.length c13] 47 (0, 0))) ?_ ?_
  · exact ⟨_, _, _, _, HVd.out, hU5.trans UD5.out, (UD5.out.block _ (blk_lt hbx5) hob5).trans hbx5, (UD5.out).same _ (blk_lt hbx5) hob5, Nat.le_trans hbs5 (UD5.out).size⟩
  clear HVd UD5
  intro W6 ⟨o6, va6, vp6, lv6, hV6, hU6, hbx6, hob6, hbs6⟩
  obtain ⟨vl, hvl⟩ : ∃ vl, lv6 p = vl := ⟨_, rfl⟩
  obtain ⟨xl, hxl⟩ : ∃ xl, ((((Vw.fresh o.f3).cop.stt o.f7).pnd o.f6).close p).logs.getD p [] = xl := ⟨_, rfl⟩
  have HLV := Lib.hid hvl
  have HXL := Lib.hid hxl
  have HVl : Hid (W6.cell? ⟨g, 9 + p, none⟩ = some vl) := by rw [← hvl]; exact Lib.hid (hV6.logc p hp4)
  have HRp : Hid (Kd.R k45 45 W6 base (fun k => o6 k = 6 + p) vl xl) := by rw [← hvl, ← hxl]; exact Lib.hid (hV6.rl p hp4)
  have HLX : Hid (xl.length ≤ 1000000) := by
    rw [← hxl]
    show Hid (((Vw.fresh o.f3).logs.getD p []).length ≤ 1000000)
    rw [logs_fresh]; exact Lib.hid (Nat.zero_le _)
  have HLY : Hid (o.f5.length ≤ 1000000) := by have := partsRs_len o.f5; have := HU'.out.2.1; exact Lib.hid (by omega)
  have HX44 : Hid (∀ W, Below W6.heap.size W6 W → Calls Try.prog 44 #[.slice A10 o.f5.length c10] W fun e w' => ∃ v, e = .returned v ∧ Hid (Kd.R k45 45 w' W.heap.size (fun _ => True) v o.f5) ∧ Hid (Below W.heap.size W w')) := fun W hW => copyRecords44 o.f5 A10 c10 W (A10'.out _ _ ((HUA.out.trans hU6).trans (Upd.of_below hW (fun _ _ => rfl)))) L10.out HU'.out.2.1
  clear hvl hxl
  go_wp2
  refine start_ (n := 18) (S := (fun w' => w'.cell? ⟨g, 9 + p, none⟩ = some vl ∧ w'.cell? ⟨w.heap.size, 2, none⟩ = some (.int .i64 p) ∧ w'.cell? ⟨w.heap.size, 10, none⟩ = some (.slice A10 o.f5.length c10))) (ds := [17]) #[false, false, false, false, false, false, false, false, false, false, false, false, false, false, false, false, false, false] (by kernel_rfl) rfl rfl ⟨(show W6.drew.cell? _ = _ from HVl.out), (show W6.drew.cell? _ = _ from blk_at hbx6 2 rfl), (show W6.drew.cell? _ = _ from blk_at hbx6 10 rfl)⟩ (fun hHeld => ?_)
  have HBo : Hid (Below W6.heap.size W6 W6.drew) := (Below.refl _ _).drew
  generalize W6.drew = W at hHeld HBo ⊢
  refine pure_ (i := 0) (N := some 69) (v := ?_) (a' := ?_) #[true, false, false, false, false, false, false, false, false, false, false, false, false, false, false, false, false, false] rfl rfl (by kernel_rfl) (fun _ _ _ h => h) (Or.inl ⟨by rfl, ?_⟩) ?_ ?_
  rotate_left
  · intro w'
    go_simp
    with_reducible rfl
  rotate_left
  · simp only [Act.put, List.setIfInBounds_toArray, List.set_cons_zero, List.set_cons_succ]
    rfl
  refine pure_ (i := 1) (N := some 70) (v := ?_) (a' := ?_) #[true, true, false, false, false, false, false, false, false, false, false, false, false, false, false, false, false, false] rfl rfl (by kernel_rfl) (fun _ _ _ h => h) (Or.inl ⟨by rfl, ?_⟩) ?_ ?_
  rotate_left
  · intro w'
    go_simp
    with_reducible rfl
  rotate_left
  · simp only [Act.put, List.setIfInBounds_toArray, List.set_cons_zero, List.set_cons_succ]
    rfl
  refine take_ (i := 2) (N := some 71) (v := ?_) (a' := ?_) #[true, true, true, false, false, false, false, false, false, false, false, false, false, false, false, false, false, false] rfl rfl (by kernel_rfl) (fun _ _ _ h => h) (Or.inl ⟨by rfl, ?_⟩) hHeld ?_ ?_
  rotate_left
  · rintro w' ⟨s0, s1, s2⟩
    go_simp
    with_reducible rfl
  rotate_left
  · simp only [Act.put, List.setIfInBounds_toArray, List.set_cons_zero, List.set_cons_succ]
    rfl
  refine pure_ (i := 3) (N := some 72) (v := ?_) (a' := ?_) #[true, true, true, true, false, false, false, false, false, false, false, false, false, false, false, false, false, false] rfl rfl (by kernel_rfl) (fun _ _ _ h => h) (Or.inl ⟨by rfl, ?_⟩) ?_ ?_
  rotate_left
  · intro w'
    go_simp
    with_reducible rfl
  rotate_left
  · simp only [Act.put, List.setIfInBounds_toArray, List.set_cons_zero, List.set_cons_succ]
    rfl
  refine pure_ (i := 4) (N := some 73) (v := ?_) (a' := ?_) #[true, true, true, true, true, false, false, false, false, false, false, false, false, false, false, false, false, false] rfl rfl (by kernel_rfl) (fun _ _ _ h => h) (Or.inl ⟨by rfl, ?_⟩) ?_ ?_
  rotate_left
  · intro w'
    go_simp
    with_reducible rfl
  rotate_left
  · simp only [Act.put, List.setIfInBounds_toArray, List.set_cons_zero, List.set_cons_succ]
    rfl
  refine take_ (i := 5) (N := some 74) (v := ?_) (a' := ?_) #[true, true, true, true, true, true, false, false, false, false, false, false, false, false, false, false, false, false] rfl rfl (by kernel_rfl) (fun _ _ _ h => h) (Or.inl ⟨by rfl, ?_⟩) hHeld ?_ ?_
  rotate_left
  · rintro w' ⟨s0, s1, s2⟩
    go_simp
    with_reducible rfl
  rotate_left
  · simp only [Act.put, List.setIfInBounds_toArray, List.set_cons_zero, List.set_cons_succ]
    rfl
  refine pure_ (i := 6) (N := some 75) (v := ?_) (a' := ?_) #[true, true, true, true, true, true, true, false, false, false, false, false, false, false, false, false, false, false] rfl rfl (by kernel_rfl) (fun _ _ _ h => h) (Or.inl ⟨by rfl, ?_⟩) ?_ ?_
  rotate_left
  · intro w'
    go_simp
    with_reducible rfl
  rotate_left
  · simp only [Act.put, List.setIfInBounds_toArray, List.set_cons_zero, List.set_cons_succ]
    rfl
  refine pure_ (i := 7) (N := some 76) (v := ?_) (a' := ?_) #[true, true, true, true, true, true, true, true, false, false, false, false, false, false, false, false, false, false] rfl rfl (by kernel_rfl) (fun _ _ _ h => h) (Or.inl ⟨by rfl, ?_⟩) ?_ ?_
  rotate_left
  · intro w'
    go_simp
    with_reducible rfl
  rotate_left
  · simp only [Act.put, List.setIfInBounds_toArray, List.set_cons_zero, List.set_cons_succ]
    rfl
  refine pure_ (i := 8) (N := some 77) (v := ?_) (a' := ?_) #[true, true, true, true, true, true, true, true, true, false, false, false, false, false, false, false, false, false] rfl rfl (by kernel_rfl) (fun _ _ _ h => h) (Or.inl ⟨by rfl, ?_⟩) ?_ ?_
  rotate_left
  · intro w'
    go_simp
    with_reducible rfl
  rotate_left
  · simp only [Act.put, List.setIfInBounds_toArray, List.set_cons_zero, List.set_cons_succ]
    rfl
  refine take_ (i := 9) (N := some 78) (v := ?_) (a' := ?_) #[true, true, true, true, true, true, true, true, true, true, false, false, false, false, false, false, false, false] rfl rfl (by kernel_rfl) (fun _ _ _ h => h) (Or.inl ⟨by rfl, ?_⟩) hHeld ?_ ?_
  rotate_left
  · rintro w' ⟨s0, s1, s2⟩
    go_simp
    with_reducible rfl
  rotate_left
  · simp only [Act.put, List.setIfInBounds_toArray, List.set_cons_zero, List.set_cons_succ]
    rfl
  refine pure_ (i := 10) (N := some 79) (v := ?_) (a' := ?_) #[true, true, true, true, true, true, true, true, true, true, true, false, false, false, false, false, false, false] rfl rfl (by kernel_rfl) (fun _ _ _ h => h) (Or.inl ⟨by rfl, ?_⟩) ?_ ?_
  rotate_left
  · intro w'
    go_simp
    with_reducible rfl
  rotate_left
  · simp only [Act.put, List.setIfInBounds_toArray, List.set_cons_zero, List.set_cons_succ]
    rfl
  refine take_ (i := 11) (N := some 80) (v := ?_) (a' := ?_) #[true, true, true, true, true, true, true, true, true, true, true, true, false, false, false, false, false, false] rfl rfl (by kernel_rfl) (fun _ _ _ h => h) (Or.inl ⟨by rfl, ?_⟩) hHeld ?_ ?_
  rotate_left
  · rintro w' ⟨s0, s1, s2⟩
    go_simp
    with_reducible rfl
  rotate_left
  · simp only [Act.put, List.setIfInBounds_toArray, List.set_cons_zero, List.set_cons_succ]
    rfl
  refine pure_ (i := 14) (N := some 83) (v := ?_) (a' := ?_) #[true, true, true, true, true, true, true, true, true, true, true, true, false, false, true, false, false, false] rfl rfl (by kernel_rfl) (fun _ _ _ h => h) (Or.inl ⟨by rfl, ?_⟩) ?_ ?_
  rotate_left
  · intro w'
    go_simp
    with_reducible rfl
  rotate_left
  · simp only [Act.put, List.setIfInBounds_toArray, List.set_cons_zero, List.set_cons_succ]
    rfl
  refine pure_ (i := 15) (N := some 84) (v := ?_) (a' := ?_) #[true, true, true, true, true, true, true, true, true, true, true, true, false, false, true, true, false, false] rfl rfl (by kernel_rfl) (fun _ _ _ h => h) (Or.inl ⟨by rfl, ?_⟩) ?_ ?_
  rotate_left
  · intro w'
    go_simp
    with_reducible rfl
  rotate_left
  · simp only [Act.put, List.setIfInBounds_toArray, List.set_cons_zero, List.set_cons_succ]
    rfl
  refine one_ (i := 12) (N := some 81) #[true, true, true, true, true, true, true, true, true, true, true, true, true, false, true, true, false, false] rfl rfl (by kernel_rfl) (by decide) (fun K hK => ?_)
  refine goes_ Try.func44 (by kernel_rfl) rfl #[.slice A10 o.f5.length c10] (by rfl) rfl rfl (by simp only [List.map_toArray, List.map_cons, List.map_nil]; rfl) ?_
  refine (HX44.out W HBo.out).mono ?_
  rintro e w3 ⟨u, rfl, hu, hb3⟩
  refine ⟨_, rfl, ?_⟩
  obtain ⟨Au, cu, rfl⟩ := Kd.R_slice hu.out
  refine hK.out _ _ ⟨pw_cell_below hb3.out hHeld.1, pw_cell_below hb3.out hHeld.2.1, pw_cell_below hb3.out hHeld.2.2⟩ (fun hHeld => ?_)
  clear hK K
  refine norm_ (a' := ?_) ?_ ?_
  rotate_left
  · show Act.put _ (some 81) _ = _
    simp only [Act.put, List.setIfInBounds_toArray, List.set_cons_zero, List.set_cons_succ]
    rfl
  refine one_ (i := 13) (N := some 82) #[true, true, true, true, true, true, true, true, true, true, true, true, true, true, true, true, false, false] rfl rfl (by kernel_rfl) (by decide) (fun K hK => ?_)
  refine Kd.R_append_rows_step k45 (Rr := k45.M w3 base (fun k => W.heap.size ≤ k)) (w0 := w3) base (by rfl) (.tmp 78) (.tmp 81) 35 45 (.agg #[.string ⟨#[]⟩, .int .i64 0, .int .i64 0, .string ⟨#[]⟩, .slice none 0 0, .slice none 0 0]) 96 rfl Try.underlying35 info45 rfl (by decide) (by decide) vl xl o.f5 Au o.f5.length cu (fun k => o6 k = 6 + p ∨ W6.heap.size ≤ k) (fun k => W.heap.size ≤ k) rfl rfl ?hO ?hR (fun _ _ hp => hp) ?hok ?hfr (Below.refl _ _) ?hS ?hl ?_
  case hO => exact Kd.R_below (Kd.R_below (Kd.R_mono HRp.out (fun _ hk => .inl hk)) HBo.out) hb3.out
  case hR => exact R_readsM hu.out (Nat.le_trans hbs6 HBo.out.size)
  case hok => exact fun k hk => ⟨.inr (Nat.le_trans HBo.out.size hk), fun he => by have := Kd.R_lt HRp.out k he.symm; have := HBo.out.size; omega⟩
  case hfr => exact fun k hk => .inr (Nat.le_trans HBo.out.size (Nat.le_trans hb3.out.size hk))
  case hS => exact Nat.le_trans hbs6 (Nat.le_trans HBo.out.size hb3.out.size)
  case hl => have := HLX.out; have := HLY.out; omega
  intro v1 w4 hO4 hB4 hg4 hat4
  have HA := Lib.hid (hV6.setLog hbs6 p hp4 (HBo.out.trans (hb3.out.mono HBo.out.size)) (by rw [HLV.out]; exact hg4) (by rw [HXL.out]; exact hO4))
  obtain ⟨A1, m1, c1, rfl⟩ := R_sliced hO4
  have hlv4 : w4.cell? ⟨g, 9 + p, none⟩ = some vl := by
    rw [← HLV.out]
    refine blk_at HA.out.1 (9 + p) ?_
    match p, hp4 with
    | 0, _ => rfl
    | 1, _ => rfl
    | 2, _ => rfl
    | 3, _ => rfl
  have hf4 : w4.frozen? ⟨g, 9 + p, none⟩ = false := blk_frozen HA.out.1 (9 + p)
  have hbx4 : w4.heap[w.heap.size]? = some (.cells #[.int .i64 o.f0, .int .i64 o.f1, .int .i64 p, .int .i64 o.f3, .string o.f4.f0, .int .i64 o.f4.f1.f0, .int .i64 o.f4.f1.f1, .string o.f4.f1.f2, .slice A8 o.f4.f1.f3.length c8, .slice A9 o.f4.f2.length c9, .slice A10 o.f5.length c10, .slice A11 o.f6.length c11, .int .i64 o.f7.f0, .slice A13 o.f7.f1.length c13] 47 (0, 0)) := (hg4.block _ (Nat.lt_of_lt_of_le (blk_lt hbx6) (Nat.le_trans HBo.out.size hb3.out.size)) (fun e => by
    have h1 := HRp.out
    have h2 := h1.1 _ e.symm
    have h3 : o6 w.heap.size = 6 + p := h2
    have h4 : o6 w.heap.size = 0 := hob6
    omega)).trans ((hb3.out.block _ (Nat.lt_of_lt_of_le (blk_lt hbx6) HBo.out.size)).trans ((HBo.out.block _ (blk_lt hbx6)).trans hbx6))
  clear hO4 hB4 hg4 hat4
  refine hK.out _ _ ⟨hlv4, blk_at hbx4 2 rfl, blk_at hbx4 10 rfl⟩ (fun hHeld => ?_)
  clear hK K hbx4
  refine norm_ (a' := ?_) ?_ ?_
  rotate_left
  · show Act.put _ (some 82) _ = _
    simp only [Act.put, List.setIfInBounds_toArray, List.set_cons_zero, List.set_cons_succ]
    rfl
  refine pure_ (i := 16) (N := some 85) (v := ?_) (a' := ?_) #[true, true, true, true, true, true, true, true, true, true, true, true, true, true, true, true, true, false] rfl rfl (by kernel_rfl) (fun _ _ _ h => h) (Or.inl ⟨by rfl, ?_⟩) ?_ ?_
  rotate_left
  · intro w'
    go_simp
    with_reducible rfl
  rotate_left
  · simp only [Act.put, List.setIfInBounds_toArray, List.set_cons_zero, List.set_cons_succ]
    rfl
  refine last_ (i := 17) (N := none) #[true, true, true, true, true, true, true, true, true, true, true, true, true, true, true, true, true, true] rfl rfl (by kernel_rfl) (by decide) (fun K hK => ?_)
  refine skip_ (w1 := ?_) (by rfl) rfl ?_ ?_
  rotate_left
  · go_simp
    rfl
  refine hK.out _ _ ?_
  clear hK K hlv4 hf4
  refine done_ (by kernel_rfl) ?_
  clear hHeld
  go_wp2
  go_end0
  exact ⟨rfl, _, ⟨_, _, _, HA.out.2.1⟩, HUA.out.trans (hU6.trans HA.out.2.2)⟩
set_option maxRecDepth 100000 in
set_option maxHeartbeats 4000000 in
theorem sees21_fresh_true_no (h : VwAt w base own g v va vp lv) (hbase : base ≤ w.heap.size) (o : S47) (A8 : Option Addr) (c8 : Nat) (A9 : Option Addr) (c9 : Nat) (A10 : Option Addr) (c10 : Nat) (A11 : Option Addr) (c11 : Nat) (A13 : Option Addr) (c13 : Nat) (p : Nat) (hp4 : p < 4) (mode : Int) (a10 : Away k45 own w A10 o.f5) (l10 : o.f5.length ≤ c10) (a11 : Away k45 own w A11 o.f6) (l11 : o.f6.length ≤ c11) (a13 : Away k104 own w A13 o.f7.f1) (l13 : o.f7.f1.length ≤ c13) (hu : partsC o.f7.f1 ≤ 100000 ∧ partsRs o.f5 ≤ 100000 ∧ partsRs o.f6 ≤ 100000) (hlg : ∀ i, (v.logs.getD i []).length ≤ 1000000) (d1 : decide (o.f3 < v.id) = false) (d2 : (o.f3 == v.id) = false) (d3 : decide (v.id < o.f3) = true) (d5 : (mode == 3) = false) : Calls Try.prog 21 #[.pointer (some ⟨g, 0, none⟩), .agg #[.int .i64 o.f0, .int .i64 o.f1, .int .i64 p, .int .i64 o.f3, .string o.f4.f0, .int .i64 o.f4.f1.f0, .int .i64 o.f4.f1.f1, .string o.f4.f1.f2, .slice A8 o.f4.f1.f3.length c8, .slice A9 o.f4.f2.length c9, .slice A10 o.f5.length c10, .slice A11 o.f6.length c11, .int .i64 o.f7.f0, .slice A13 o.f7.f1.length c13], .bool true, .int .i64 mode] w fun e w' => e = .returned (.tuple #[]) ∧ VwPost base own g ((((Vw.fresh o.f3).cop.stt o.f7).pnd o.f6).close p) w w' := by
  have HV0 : Hid (VwAt (w.alloc (.cells #[.int .i64 o.f0, .int .i64 o.f1, .int .i64 p, .int .i64 o.f3, .string o.f4.f0, .int .i64 o.f4.f1.f0, .int .i64 o.f4.f1.f1, .string o.f4.f1.f2, .slice A8 o.f4.f1.f3.length c8, .slice A9 o.f4.f2.length c9, .slice A10 o.f5.length c10, .slice A11 o.f6.length c11, .int .i64 o.f7.f0, .slice A13 o.f7.f1.length c13] 47)) base own g v va vp lv) := h.below ((Below.refl _ _).alloc (Nat.le_refl _) _)
  have HUA : Hid (Upd own w own (w.alloc (.cells #[.int .i64 o.f0, .int .i64 o.f1, .int .i64 p, .int .i64 o.f3, .string o.f4.f0, .int .i64 o.f4.f1.f0, .int .i64 o.f4.f1.f1, .string o.f4.f1.f2, .slice A8 o.f4.f1.f3.length c8, .slice A9 o.f4.f2.length c9, .slice A10 o.f5.length c10, .slice A11 o.f6.length c11, .int .i64 o.f7.f0, .slice A13 o.f7.f1.length c13] 47))) := Upd.of_below ((Below.refl _ _).alloc (Nat.le_refl _) _) (fun _ _ => rfl)
  have HX0 : Hid (((w.alloc (.cells #[.int .i64 o.f0, .int .i64 o.f1, .int .i64 p, .int .i64 o.f3, .string o.f4.f0, .int .i64 o.f4.f1.f0, .int .i64 o.f4.f1.f1, .string o.f4.f1.f2, .slice A8 o.f4.f1.f3.length c8, .slice A9 o.f4.f2.length c9, .slice A10 o.f5.length c10, .slice A11 o.f6.length c11, .int .i64 o.f7.f0, .slice A13 o.f7.f1.length c13] 47))).heap[w.heap.size]? = some (.cells #[.int .i64 o.f0, .int .i64 o.f1, .int .i64 p, .int .i64 o.f3, .string o.f4.f0, .int .i64 o.f4.f1.f0, .int .i64 o.f4.f1.f1, .string o.f4.f1.f2, .slice A8 o.f4.f1.f3.length c8, .slice A9 o.f4.f2.length c9, .slice A10 o.f5.length c10, .slice A11 o.f6.length c11, .int .i64 o.f7.f0, .slice A13 o.f7.f1.length c13] 47 (0, 0))) := blk_new w _
  have HFR : Hid (own w.heap.size = 0) := h.free (Nat.le_refl _)
  have Hbase := Lib.hid hbase
  have hgl : g < w.heap.size := h.glt
  have c0 : w.cell? ⟨g, 0, none⟩ = some (.int .i64 v.id) := blk_at h.hb 0 rfl
  have cp := h.shutc p hp4
  have i1 : (0 : Int) ≤ (p : Int) := by omega
  have i2 : (p : Int) < 4 := by omega
  have A10' := Lib.hid a10
  have A11' := Lib.hid a11
  have A13' := Lib.hid a13
  have L10 := Lib.hid l10
  have L11 := Lib.hid l11
  have L13 := Lib.hid l13
  have HU' := Lib.hid hu
  have HLG := Lib.hid hlg
  clear h hbase a10 l10 a11 l11 a13 l13 hu hlg
  go_enter Try.func21, Try.ntmps21
  go_wp2
  go_quiet (fail)
  go_wp2
  go_quiet (fail)
  go_upto_region 3 with (fail)
  clear c0 cp d1 d2 d3
  refine wp_gen (fun W => VSt (w.alloc (.cells #[.int .i64 o.f0, .int .i64 o.f1, .int .i64 p, .int .i64 o.f3, .string o.f4.f0, .int .i64 o.f4.f1.f0, .int .i64 o.f4.f1.f1, .string o.f4.f1.f2, .slice A8 o.f4.f1.f3.length c8, .slice A9 o.f4.f2.length c9, .slice A10 o.f5.length c10, .slice A11 o.f6.length c11, .int .i64 o.f7.f0, .slice A13 o.f7.f1.length c13] 47)) W base own g v w.heap.size (.cells #[.int .i64 o.f0, .int .i64 o.f1, .int .i64 p, .int .i64 o.f3, .string o.f4.f0, .int .i64 o.f4.f1.f0, .int .i64 o.f4.f1.f1, .string o.f4.f1.f2, .slice A8 o.f4.f1.f3.length c8, .slice A9 o.f4.f2.length c9, .slice A10 o.f5.length c10, .slice A11 o.f6.length c11, .int .i64 o.f7.f0, .slice A13 o.f7.f1.length c13] 47 (0, 0))) ?_ ?_
  · exact ⟨own, va, vp, lv, HV0.out.below (pw_below_drewN (pw_below_drewN (Below.refl _ _) _) _), Upd.of_below (pw_below_drewN (pw_below_drewN (Below.refl _ _) _) _) (fun _ _ => rfl), HX0.out, HFR.out, Nat.le_trans Hbase.out (by simp)⟩
  intro W1 ⟨o1, va1, vp1, lv1, hV1, hU1, hbx1, hob1, hbs1⟩
  have x3 : W1.cell? ⟨w.heap.size, 3, none⟩ = some (.int .i64 o.f3) := blk_at hbx1 3 rfl
  have y0 : W1.cell? ⟨g, 0, none⟩ = some (.int .i64 v.id) := blk_at hV1.hb 0 rfl
  have z0 : W1.frozen? ⟨g, 0, none⟩ = false := blk_frozen hV1.hb 0
  have y1 : W1.cell? ⟨g, 1, none⟩ = some (.bool v.copied) := blk_at hV1.hb 1 rfl
  have z1 : W1.frozen? ⟨g, 1, none⟩ = false := blk_frozen hV1.hb 1
  have y2 : W1.cell? ⟨g, 2, none⟩ = some (.int .i64 v.st.f0) := blk_at hV1.hb 2 rfl
  have z2 : W1.frozen? ⟨g, 2, none⟩ = false := blk_frozen hV1.hb 2
  have y3 : W1.cell? ⟨g, 3, none⟩ = some (va1) := blk_at hV1.hb 3 rfl
  have z3 : W1.frozen? ⟨g, 3, none⟩ = false := blk_frozen hV1.hb 3
  have y4 : W1.cell? ⟨g, 4, none⟩ = some (vp1) := blk_at hV1.hb 4 rfl
  have z4 : W1.frozen? ⟨g, 4, none⟩ = false := blk_frozen hV1.hb 4
  have y5 : W1.cell? ⟨g, 5, none⟩ = some (.bool (v.shut 0)) := blk_at hV1.hb 5 rfl
  have z5 : W1.frozen? ⟨g, 5, none⟩ = false := blk_frozen hV1.hb 5
  have y6 : W1.cell? ⟨g, 6, none⟩ = some (.bool (v.shut 1)) := blk_at hV1.hb 6 rfl
  have z6 : W1.frozen? ⟨g, 6, none⟩ = false := blk_frozen hV1.hb 6
  have y7 : W1.cell? ⟨g, 7, none⟩ = some (.bool (v.shut 2)) := blk_at hV1.hb 7 rfl
  have z7 : W1.frozen? ⟨g, 7, none⟩ = false := blk_frozen hV1.hb 7
  have y8 : W1.cell? ⟨g, 8, none⟩ = some (.bool (v.shut 3)) := blk_at hV1.hb 8 rfl
  have z8 : W1.frozen? ⟨g, 8, none⟩ = false := blk_frozen hV1.hb 8
  have y9 : W1.cell? ⟨g, 9, none⟩ = some (lv1 0) := blk_at hV1.hb 9 rfl
  have z9 : W1.frozen? ⟨g, 9, none⟩ = false := blk_frozen hV1.hb 9
  have y10 : W1.cell? ⟨g, 10, none⟩ = some (lv1 1) := blk_at hV1.hb 10 rfl
  have z10 : W1.frozen? ⟨g, 10, none⟩ = false := blk_frozen hV1.hb 10
  have y11 : W1.cell? ⟨g, 11, none⟩ = some (lv1 2) := blk_at hV1.hb 11 rfl
  have z11 : W1.frozen? ⟨g, 11, none⟩ = false := blk_frozen hV1.hb 11
  have y12 : W1.cell? ⟨g, 12, none⟩ = some (lv1 3) := blk_at hV1.hb 12 rfl
  have z12 : W1.frozen? ⟨g, 12, none⟩ = false := blk_frozen hV1.hb 12
  have y13 : W1.cell? ⟨g, 13, none⟩ = some (.bool v.handed) := blk_at hV1.hb 13 rfl
  have z13 : W1.frozen? ⟨g, 13, none⟩ = false := blk_frozen hV1.hb 13
  have FD1 := Lib.hid (hV1.freshd o.f3)
  go_upto_region 4 with (fail)
  clear x3 y0 z0 y1 z1 y2 z2 y3 z3 y4 z4 y5 z5 y6 z6 y7 z7 y8 z8 y9 z9 y10 z10 y11 z11 y12 z12 y13 z13
  refine wp_gen (fun W => VSt (w.alloc (.cells #[.int .i64 o.f0, .int .i64 o.f1, .int .i64 p, .int .i64 o.f3, .string o.f4.f0, .int .i64 o.f4.f1.f0, .int .i64 o.f4.f1.f1, .string o.f4.f1.f2, .slice A8 o.f4.f1.f3.length c8, .slice A9 o.f4.f2.length c9, .slice A10 o.f5.length c10, .slice A11 o.f6.length c11, .int .i64 o.f7.f0, .slice A13 o.f7.f1.length c13] 47)) W base own g (Vw.fresh o.f3) w.heap.size (.cells #[.int .i64 o.f0, .int .i64 o.f1, .int .i64 p, .int .i64 o.f3, .string o.f4.f0, .int .i64 o.f4.f1.f0, .int .i64 o.f4.f1.f1, .string o.f4.f1.f2, .slice A8 o.f4.f1.f3.length c8, .slice A9 o.f4.f2.length c9, .slice A10 o.f5.length c10, .slice A11 o.f6.length c11, .int .i64 o.f7.f0, .slice A13 o.f7.f1.length c13] 47 (0, 0))) ?_ ?_
  · exact ⟨_, _, _, _, FD1.out.1, hU1.trans FD1.out.2, (FD1.out.2.block _ (blk_lt hbx1) hob1).trans hbx1, (FD1.out.2).same _ (blk_lt hbx1) hob1, Nat.le_trans hbs1 (FD1.out.2).size⟩
  intro W2 ⟨o2, va2, vp2, lv2, hV2, hU2, hbx2, hob2, hbs2⟩
  have y1 : W2.cell? ⟨g, 1, none⟩ = some (.bool (Vw.fresh o.f3).copied) := blk_at hV2.hb 1 rfl
  have z1 : W2.frozen? ⟨g, 1, none⟩ = false := blk_frozen hV2.hb 1
  have hog2 : o2 g ≠ 0 := by have := hV2.og; omega
  have UD2 := Lib.hid ((Upd.refl o2 W2).set (p := ⟨g, 1, none⟩) hog2 (.bool true))
  go_upto_region 6 with (fail)
  clear y1 z1
  refine wp_gen (fun W => VSt (w.alloc (.cells #[.int .i64 o.f0, .int .i64 o.f1, .int .i64 p, .int .i64 o.f3, .string o.f4.f0, .int .i64 o.f4.f1.f0, .int .i64 o.f4.f1.f1, .string o.f4.f1.f2, .slice A8 o.f4.f1.f3.length c8, .slice A9 o.f4.f2.length c9, .slice A10 o.f5.length c10, .slice A11 o.f6.length c11, .int .i64 o.f7.f0, .slice A13 o.f7.f1.length c13] 47)) W base own g (Vw.fresh o.f3).cop w.heap.size (.cells #[.int .i64 o.f0, .int .i64 o.f1, .int .i64 p, .int .i64 o.f3, .string o.f4.f0, .int .i64 o.f4.f1.f0, .int .i64 o.f4.f1.f1, .string o.f4.f1.f2, .slice A8 o.f4.f1.f3.length c8, .slice A9 o.f4.f2.length c9, .slice A10 o.f5.length c10, .slice A11 o.f6.length c11, .int .i64 o.f7.f0, .slice A13 o.f7.f1.length c13] 47 (0, 0))) ?_ ?_
  · exact ⟨_, _, _, _, hV2.setCop, hU2.trans UD2.out, (UD2.out.block _ (blk_lt hbx2) hob2).trans hbx2, (UD2.out).same _ (blk_lt hbx2) hob2, Nat.le_trans hbs2 (UD2.out).size⟩
  intro W3 ⟨o3, va3, vp3, lv3, hV3, hU3, hbx3, hob3, hbs3⟩
  have x12 : W3.cell? ⟨w.heap.size, 12, none⟩ = some (.int .i64 o.f7.f0) := blk_at hbx3 12 rfl
  have x13 : W3.cell? ⟨w.heap.size, 13, none⟩ = some (.slice A13 o.f7.f1.length c13) := blk_at hbx3 13 rfl
  have HC43 := Lib.hid (copyState43 o.f7 A13 c13 W3 (A13'.out _ _ (HUA.out.trans hU3)) L13.out HU'.out.1)
  go_upto_region 7 with (first
          | (go_at_call 43; refine HC43.out.mono ?_; rintro e w2 ⟨u, rfl, hu2, hb2⟩
             obtain ⟨Bu, du, rfl⟩ := Kd.R_slice hu2.out
             have GR3 := Lib.hid (hV3.grow hbs3 hb2.out 4)
             have y2 : w2.cell? ⟨g, 2, none⟩ = some (.int .i64 (Vw.fresh o.f3).cop.st.f0) := blk_at GR3.out.1.hb 2 rfl
             have z2 : w2.frozen? ⟨g, 2, none⟩ = false := blk_frozen GR3.out.1.hb 2
             have y3 : w2.cell? ⟨g, 3, none⟩ = some (va3) := blk_at GR3.out.1.hb 3 rfl
             have z3 : w2.frozen? ⟨g, 3, none⟩ = false := blk_frozen GR3.out.1.hb 3
             have HRU := Lib.hid (R_tagged (own := o3) (t := 4) hu2.out hbs3)
             clear hu2 hb2))
  clear x12 x13 y2 z2 y3 z3 HC43
  have hogg : tagged o3 W3.heap.size w2.heap.size 4 g ≠ 0 := by have := GR3.out.1.og; omega
  have UE3 : Upd o3 W3 _ _ := GR3.out.2.trans (((Upd.refl _ w2).set (p := ⟨g, 2, none⟩) hogg (.int .i64 o.f7.f0)).set (p := ⟨g, 3, none⟩) hogg (.slice Bu o.f7.f1.length du))
  refine wp_gen (fun W => VSt (w.alloc (.cells #[.int .i64 o.f0, .int .i64 o.f1, .int .i64 p, .int .i64 o.f3, .string o.f4.f0, .int .i64 o.f4.f1.f0, .int .i64 o.f4.f1.f1, .string o.f4.f1.f2, .slice A8 o.f4.f1.f3.length c8, .slice A9 o.f4.f2.length c9, .slice A10 o.f5.length c10, .slice A11 o.f6.length c11, .int .i64 o.f7.f0, .slice A13 o.f7.f1.length c13] 47)) W base own g ((Vw.fresh o.f3).cop.stt o.f7) w.heap.size (.cells #[.int .i64 o.f0, .int .i64 o.f1, .int .i64 p, .int .i64 o.f3, .string o.f4.f0, .int .i64 o.f4.f1.f0, .int .i64 o.f4.f1.f1, .string o.f4.f1.f2, .slice A8 o.f4.f1.f3.length c8, .slice A9 o.f4.f2.length c9, .slice A10 o.f5.length c10, .slice A11 o.f6.length c11, .int .i64 o.f7.f0, .slice A13 o.f7.f1.length c13] 47 (0, 0))) ?_ ?_
  · exact ⟨_, _, _, _, GR3.out.1.setSt HRU.out, hU3.trans UE3, (UE3.block _ (blk_lt hbx3) hob3).trans hbx3, (UE3).same _ (blk_lt hbx3) hob3, Nat.le_trans hbs3 (UE3).size⟩
  clear GR3 HRU hogg UE3
  intro W4 ⟨o4, va4, vp4, lv4, hV4, hU4, hbx4, hob4, hbs4⟩
  have x11 : W4.cell? ⟨w.heap.size, 11, none⟩ = some (.slice A11 o.f6.length c11) := blk_at hbx4 11 rfl
  have HC44 := Lib.hid (copyRecords44 o.f6 A11 c11 W4 (A11'.out _ _ (HUA.out.trans hU4)) L11.out HU'.out.2.2)
  go_upto_region 8 with (first
          | (go_at_call 44; refine HC44.out.mono ?_; rintro e w2 ⟨u, rfl, hu2, hb2⟩
             obtain ⟨Bu, du, rfl⟩ := Kd.R_slice hu2.out
             have GR4 := Lib.hid (hV4.grow hbs4 hb2.out 5)
             have y4 : w2.cell? ⟨g, 4, none⟩ = some (vp4) := blk_at GR4.out.1.hb 4 rfl
             have z4 : w2.frozen? ⟨g, 4, none⟩ = false := blk_frozen GR4.out.1.hb 4
             have HRU := Lib.hid (R_tagged (own := o4) (t := 5) hu2.out hbs4)
             clear hu2 hb2))
  clear x11 y4 z4 HC44
  have hogg : tagged o4 W4.heap.size w2.heap.size 5 g ≠ 0 := by have := GR4.out.1.og; omega
  have UE4 : Upd o4 W4 _ _ := GR4.out.2.trans ((Upd.refl _ w2).set (p := ⟨g, 4, none⟩) hogg (.slice Bu o.f6.length du))
  refine wp_gen (fun W => VSt (w.alloc (.cells #[.int .i64 o.f0, .int .i64 o.f1, .int .i64 p, .int .i64 o.f3, .string o.f4.f0, .int .i64 o.f4.f1.f0, .int .i64 o.f4.f1.f1, .string o.f4.f1.f2, .slice A8 o.f4.f1.f3.length c8, .slice A9 o.f4.f2.length c9, .slice A10 o.f5.length c10, .slice A11 o.f6.length c11, .int .i64 o.f7.f0, .slice A13 o.f7.f1.length c13] 47)) W base own g (((Vw.fresh o.f3).cop.stt o.f7).pnd o.f6) w.heap.size (.cells #[.int .i64 o.f0, .int .i64 o.f1, .int .i64 p, .int .i64 o.f3, .string o.f4.f0, .int .i64 o.f4.f1.f0, .int .i64 o.f4.f1.f1, .string o.f4.f1.f2, .slice A8 o.f4.f1.f3.length c8, .slice A9 o.f4.f2.length c9, .slice A10 o.f5.length c10, .slice A11 o.f6.length c11, .int .i64 o.f7.f0, .slice A13 o.f7.f1.length c13] 47 (0, 0))) ?_ ?_
  · exact ⟨_, _, _, _, GR4.out.1.setPnd HRU.out, hU4.trans UE4, (UE4.block _ (blk_lt hbx4) hob4).trans hbx4, (UE4).same _ (blk_lt hbx4) hob4, Nat.le_trans hbs4 (UE4).size⟩
  clear GR4 HRU hogg UE4
  intro W5 ⟨o5, va5, vp5, lv5, hV5, hU5, hbx5, hob5, hbs5⟩
  refine start_ (n := 7) (S := (fun w' => w'.cell? ⟨w.heap.size, 2, none⟩ = some (.int .i64 p))) (ds := [6]) #[false, false, false, false, false, false, false] (by kernel_rfl) rfl rfl (show W5.drew.cell? _ = _ from blk_at hbx5 2 rfl) (fun hHeld => ?_)
  refine pure_ (i := 0) (N := some 61) (v := ?_) (a' := ?_) #[true, false, false, false, false, false, false] rfl rfl (by kernel_rfl) (fun _ _ _ h => h) (Or.inl ⟨by rfl, ?_⟩) ?_ ?_
  rotate_left
  · intro w'
    go_simp
    with_reducible rfl
  rotate_left
  · simp only [Act.put, List.setIfInBounds_toArray, List.set_cons_zero, List.set_cons_succ]
    rfl
  refine pure_ (i := 1) (N := some 62) (v := ?_) (a' := ?_) #[true, true, false, false, false, false, false] rfl rfl (by kernel_rfl) (fun _ _ _ h => h) (Or.inl ⟨by rfl, ?_⟩) ?_ ?_
  rotate_left
  · intro w'
    go_simp
    with_reducible rfl
  rotate_left
  · simp only [Act.put, List.setIfInBounds_toArray, List.set_cons_zero, List.set_cons_succ]
    rfl
  refine take_ (i := 2) (N := some 63) (v := ?_) (a' := ?_) #[true, true, true, false, false, false, false] rfl rfl (by kernel_rfl) (fun _ _ _ h => h) (Or.inl ⟨by rfl, ?_⟩) hHeld ?_ ?_
  rotate_left
  · intro w' s0
    go_simp
    with_reducible rfl
  rotate_left
  · simp only [Act.put, List.setIfInBounds_toArray, List.set_cons_zero, List.set_cons_succ]
    rfl
  refine pure_ (i := 3) (N := some 64) (v := ?_) (a' := ?_) #[true, true, true, true, false, false, false] rfl rfl (by kernel_rfl) (fun _ _ _ h => h) (Or.inl ⟨by rfl, ?_⟩) ?_ ?_
  rotate_left
  · intro w'
    go_simp
    with_reducible rfl
  rotate_left
  · simp only [Act.put, List.setIfInBounds_toArray, List.set_cons_zero, List.set_cons_succ]
    rfl
  refine pure_ (i := 4) (N := some 65) (v := ?_) (a' := ?_) #[true, true, true, true, true, false, false] rfl rfl (by kernel_rfl) (fun _ _ _ h => h) (Or.inl ⟨by rfl, ?_⟩) ?_ ?_
  rotate_left
  · intro w'
    go_simp
    with_reducible rfl
  rotate_left
  · simp only [Act.put, List.setIfInBounds_toArray, List.set_cons_zero, List.set_cons_succ]
    rfl
  refine pure_ (i := 5) (N := some 66) (v := ?_) (a' := ?_) #[true, true, true, true, true, true, false] rfl rfl (by kernel_rfl) (fun _ _ _ h => h) (Or.inl ⟨by rfl, ?_⟩) ?_ ?_
  rotate_left
  · intro w'
    go_simp
    with_reducible rfl
  rotate_left
  · simp only [Act.put, List.setIfInBounds_toArray, List.set_cons_zero, List.set_cons_succ]
    rfl
  refine last_ (i := 6) (N := none) #[true, true, true, true, true, true, true] rfl rfl (by kernel_rfl) (by decide) (fun K hK => ?_)
  have hs := (show VwAt W5.drew base o5 g (((Vw.fresh o.f3).cop.stt o.f7).pnd o.f6) va5 vp5 lv5 from hV5.below (Below.refl _ _).drew).shutc p hp4
  have hf : W5.drew.frozen? ⟨g, 5 + p, none⟩ = false := blk_frozen (hV5.below (Below.refl _ _).drew).hb (5 + p)
  refine skip_ (w1 := ?_) (by rfl) rfl ?_ ?_
  rotate_left
  · go_simp
    rfl
  refine hK.out _ _ ?_
  clear hK K hs hf
  refine done_ (by kernel_rfl) ?_
  clear hHeld
  have hog5 : o5 g ≠ 0 := by have := hV5.og; omega
  have HVd := Lib.hid ((hV5.below (Below.refl _ _).drew).setShut p hp4)
  have UD5 : Hid (Upd o5 W5 o5 _) := (Upd.of_below (Below.refl _ _).drew (fun _ _ => rfl)).set (p := ⟨g, 5 + p, none⟩) hog5 (.bool true)
  go_upto_region 9 with (fail)
  refine wp_gen (fun W => VSt (w.alloc (.cells #[.int .i64 o.f0, .int .i64 o.f1, .int .i64 p, .int .i64 o.f3, .string o.f4.f0, .int .i64 o.f4.f1.f0, .int .i64 o.f4.f1.f1, .string o.f4.f1.f2, .slice A8 o.f4.f1.f3.length c8, .slice A9 o.f4.f2.length c9, .slice A10 o.f5.length c10, .slice A11 o.f6.length c11, .int .i64 o.f7.f0, .slice A13 o.f7.f1.length c13] 47)) W base own g ((((Vw.fresh o.f3).cop.stt o.f7).pnd o.f6).close p) w.heap.size (.cells #[.int .i64 o.f0, .int .i64 o.f1, .int .i64 p, .int .i64 o.f3, .string o.f4.f0, .int .i64 o.f4.f1.f0, .int .i64 o.f4.f1.f1, .string o.f4.f1.f2, .slice A8 o.f4.f1.f3.length c8, .slice A9 o.f4.f2.length c9, .slice A10 o.f5.length c10, .slice A11 o.f6.length c11, .int .i64 o.f7.f0, .slice A13 o.f7.f1.length c13] 47 (0, 0))) ?_ ?_
  · exact ⟨_, _, _, _, HVd.out, hU5.trans UD5.out, (UD5.out.block _ (blk_lt hbx5) hob5).trans hbx5, (UD5.out).same _ (blk_lt hbx5) hob5, Nat.le_trans hbs5 (UD5.out).size⟩
  clear HVd UD5
  intro W6 ⟨o6, va6, vp6, lv6, hV6, hU6, hbx6, hob6, hbs6⟩
  go_wp2
  go_end0
  exact ⟨rfl, _, ⟨_, _, _, hV6⟩, HUA.out.trans hU6⟩
set_option maxRecDepth 100000 in
set_option maxHeartbeats 4000000 in
theorem sees21_fresh_false_log (h : VwAt w base own g v va vp lv) (hbase : base ≤ w.heap.size) (o : S47) (A8 : Option Addr) (c8 : Nat) (A9 : Option Addr) (c9 : Nat) (A10 : Option Addr) (c10 : Nat) (A11 : Option Addr) (c11 : Nat) (A13 : Option Addr) (c13 : Nat) (p : Nat) (hp4 : p < 4) (mode : Int) (a10 : Away k45 own w A10 o.f5) (l10 : o.f5.length ≤ c10) (a11 : Away k45 own w A11 o.f6) (l11 : o.f6.length ≤ c11) (a13 : Away k104 own w A13 o.f7.f1) (l13 : o.f7.f1.length ≤ c13) (hu : partsC o.f7.f1 ≤ 100000 ∧ partsRs o.f5 ≤ 100000 ∧ partsRs o.f6 ≤ 100000) (hlg : ∀ i, (v.logs.getD i []).length ≤ 1000000) (d1 : decide (o.f3 < v.id) = false) (d2 : (o.f3 == v.id) = false) (d3 : decide (v.id < o.f3) = true) (d5 : (mode == 3) = true) : Calls Try.prog 21 #[.pointer (some ⟨g, 0, none⟩), .agg #[.int .i64 o.f0, .int .i64 o.f1, .int .i64 p, .int .i64 o.f3, .string o.f4.f0, .int .i64 o.f4.f1.f0, .int .i64 o.f4.f1.f1, .string o.f4.f1.f2, .slice A8 o.f4.f1.f3.length c8, .slice A9 o.f4.f2.length c9, .slice A10 o.f5.length c10, .slice A11 o.f6.length c11, .int .i64 o.f7.f0, .slice A13 o.f7.f1.length c13], .bool false, .int .i64 mode] w fun e w' => e = .returned (.tuple #[]) ∧ VwPost base own g (((Vw.fresh o.f3).close p).logged p o.f5) w w' := by
  have HV0 : Hid (VwAt (w.alloc (.cells #[.int .i64 o.f0, .int .i64 o.f1, .int .i64 p, .int .i64 o.f3, .string o.f4.f0, .int .i64 o.f4.f1.f0, .int .i64 o.f4.f1.f1, .string o.f4.f1.f2, .slice A8 o.f4.f1.f3.length c8, .slice A9 o.f4.f2.length c9, .slice A10 o.f5.length c10, .slice A11 o.f6.length c11, .int .i64 o.f7.f0, .slice A13 o.f7.f1.length c13] 47)) base own g v va vp lv) := h.below ((Below.refl _ _).alloc (Nat.le_refl _) _)
  have HUA : Hid (Upd own w own (w.alloc (.cells #[.int .i64 o.f0, .int .i64 o.f1, .int .i64 p, .int .i64 o.f3, .string o.f4.f0, .int .i64 o.f4.f1.f0, .int .i64 o.f4.f1.f1, .string o.f4.f1.f2, .slice A8 o.f4.f1.f3.length c8, .slice A9 o.f4.f2.length c9, .slice A10 o.f5.length c10, .slice A11 o.f6.length c11, .int .i64 o.f7.f0, .slice A13 o.f7.f1.length c13] 47))) := Upd.of_below ((Below.refl _ _).alloc (Nat.le_refl _) _) (fun _ _ => rfl)
  have HX0 : Hid (((w.alloc (.cells #[.int .i64 o.f0, .int .i64 o.f1, .int .i64 p, .int .i64 o.f3, .string o.f4.f0, .int .i64 o.f4.f1.f0, .int .i64 o.f4.f1.f1, .string o.f4.f1.f2, .slice A8 o.f4.f1.f3.length c8, .slice A9 o.f4.f2.length c9, .slice A10 o.f5.length c10, .slice A11 o.f6.length c11, .int .i64 o.f7.f0, .slice A13 o.f7.f1.length c13] 47))).heap[w.heap.size]? = some (.cells #[.int .i64 o.f0, .int .i64 o.f1, .int .i64 p, .int .i64 o.f3, .string o.f4.f0, .int .i64 o.f4.f1.f0, .int .i64 o.f4.f1.f1, .string o.f4.f1.f2, .slice A8 o.f4.f1.f3.length c8, .slice A9 o.f4.f2.length c9, .slice A10 o.f5.length c10, .slice A11 o.f6.length c11, .int .i64 o.f7.f0, .slice A13 o.f7.f1.length c13] 47 (0, 0))) := blk_new w _
  have HFR : Hid (own w.heap.size = 0) := h.free (Nat.le_refl _)
  have Hbase := Lib.hid hbase
  have hgl : g < w.heap.size := h.glt
  have c0 : w.cell? ⟨g, 0, none⟩ = some (.int .i64 v.id) := blk_at h.hb 0 rfl
  have cp := h.shutc p hp4
  have i1 : (0 : Int) ≤ (p : Int) := by omega
  have i2 : (p : Int) < 4 := by omega
  have A10' := Lib.hid a10
  have A11' := Lib.hid a11
  have A13' := Lib.hid a13
  have L10 := Lib.hid l10
  have L11 := Lib.hid l11
  have L13 := Lib.hid l13
  have HU' := Lib.hid hu
  have HLG := Lib.hid hlg
  clear h hbase a10 l10 a11 l11 a13 l13 hu hlg
  go_enter Try.func21, Try.ntmps21
  go_wp2
  go_quiet (fail)
  go_wp2
  go_quiet (fail)
  go_upto_region 3 with (fail)
  clear c0 cp d1 d2 d3
  refine wp_gen (fun W => VSt (w.alloc (.cells #[.int .i64 o.f0, .int .i64 o.f1, .int .i64 p, .int .i64 o.f3, .string o.f4.f0, .int .i64 o.f4.f1.f0, .int .i64 o.f4.f1.f1, .string o.f4.f1.f2, .slice A8 o.f4.f1.f3.length c8, .slice A9 o.f4.f2.length c9, .slice A10 o.f5.length c10, .slice A11 o.f6.length c11, .int .i64 o.f7.f0, .slice A13 o.f7.f1.length c13] 47)) W base own g v w.heap.size (.cells #[.int .i64 o.f0, .int .i64 o.f1, .int .i64 p, .int .i64 o.f3, .string o.f4.f0, .int .i64 o.f4.f1.f0, .int .i64 o.f4.f1.f1, .string o.f4.f1.f2, .slice A8 o.f4.f1.f3.length c8, .slice A9 o.f4.f2.length c9, .slice A10 o.f5.length c10, .slice A11 o.f6.length c11, .int .i64 o.f7.f0, .slice A13 o.f7.f1.length c13] 47 (0, 0))) ?_ ?_
  · exact ⟨own, va, vp, lv, HV0.out.below (pw_below_drewN (pw_below_drewN (Below.refl _ _) _) _), Upd.of_below (pw_below_drewN (pw_below_drewN (Below.refl _ _) _) _) (fun _ _ => rfl), HX0.out, HFR.out, Nat.le_trans Hbase.out (by simp)⟩
  intro W1 ⟨o1, va1, vp1, lv1, hV1, hU1, hbx1, hob1, hbs1⟩
  have x3 : W1.cell? ⟨w.heap.size, 3, none⟩ = some (.int .i64 o.f3) := blk_at hbx1 3 rfl
  have y0 : W1.cell? ⟨g, 0, none⟩ = some (.int .i64 v.id) := blk_at hV1.hb 0 rfl
  have z0 : W1.frozen? ⟨g, 0, none⟩ = false := blk_frozen hV1.hb 0
  have y1 : W1.cell? ⟨g, 1, none⟩ = some (.bool v.copied) := blk_at hV1.hb 1 rfl
  have z1 : W1.frozen? ⟨g, 1, none⟩ = false := blk_frozen hV1.hb 1
  have y2 : W1.cell? ⟨g, 2, none⟩ = some (.int .i64 v.st.f0) := blk_at hV1.hb 2 rfl
  have z2 : W1.frozen? ⟨g, 2, none⟩ = false := blk_frozen hV1.hb 2
  have y3 : W1.cell? ⟨g, 3, none⟩ = some (va1) := blk_at hV1.hb 3 rfl
  have z3 : W1.frozen? ⟨g, 3, none⟩ = false := blk_frozen hV1.hb 3
  have y4 : W1.cell? ⟨g, 4, none⟩ = some (vp1) := blk_at hV1.hb 4 rfl
  have z4 : W1.frozen? ⟨g, 4, none⟩ = false := blk_frozen hV1.hb 4
  have y5 : W1.cell? ⟨g, 5, none⟩ = some (.bool (v.shut 0)) := blk_at hV1.hb 5 rfl
  have z5 : W1.frozen? ⟨g, 5, none⟩ = false := blk_frozen hV1.hb 5
  have y6 : W1.cell? ⟨g, 6, none⟩ = some (.bool (v.shut 1)) := blk_at hV1.hb 6 rfl
  have z6 : W1.frozen? ⟨g, 6, none⟩ = false := blk_frozen hV1.hb 6
  have y7 : W1.cell? ⟨g, 7, none⟩ = some (.bool (v.shut 2)) := blk_at hV1.hb 7 rfl
  have z7 : W1.frozen? ⟨g, 7, none⟩ = false := blk_frozen hV1.hb 7
  have y8 : W1.cell? ⟨g, 8, none⟩ = some (.bool (v.shut 3)) := blk_at hV1.hb 8 rfl
  have z8 : W1.frozen? ⟨g, 8, none⟩ = false := blk_frozen hV1.hb 8
  have y9 : W1.cell? ⟨g, 9, none⟩ = some (lv1 0) := blk_at hV1.hb 9 rfl
  have z9 : W1.frozen? ⟨g, 9, none⟩ = false := blk_frozen hV1.hb 9
  have y10 : W1.cell? ⟨g, 10, none⟩ = some (lv1 1) := blk_at hV1.hb 10 rfl
  have z10 : W1.frozen? ⟨g, 10, none⟩ = false := blk_frozen hV1.hb 10
  have y11 : W1.cell? ⟨g, 11, none⟩ = some (lv1 2) := blk_at hV1.hb 11 rfl
  have z11 : W1.frozen? ⟨g, 11, none⟩ = false := blk_frozen hV1.hb 11
  have y12 : W1.cell? ⟨g, 12, none⟩ = some (lv1 3) := blk_at hV1.hb 12 rfl
  have z12 : W1.frozen? ⟨g, 12, none⟩ = false := blk_frozen hV1.hb 12
  have y13 : W1.cell? ⟨g, 13, none⟩ = some (.bool v.handed) := blk_at hV1.hb 13 rfl
  have z13 : W1.frozen? ⟨g, 13, none⟩ = false := blk_frozen hV1.hb 13
  have FD1 := Lib.hid (hV1.freshd o.f3)
  go_upto_region 4 with (fail)
  clear x3 y0 z0 y1 z1 y2 z2 y3 z3 y4 z4 y5 z5 y6 z6 y7 z7 y8 z8 y9 z9 y10 z10 y11 z11 y12 z12 y13 z13
  refine wp_gen (fun W => VSt (w.alloc (.cells #[.int .i64 o.f0, .int .i64 o.f1, .int .i64 p, .int .i64 o.f3, .string o.f4.f0, .int .i64 o.f4.f1.f0, .int .i64 o.f4.f1.f1, .string o.f4.f1.f2, .slice A8 o.f4.f1.f3.length c8, .slice A9 o.f4.f2.length c9, .slice A10 o.f5.length c10, .slice A11 o.f6.length c11, .int .i64 o.f7.f0, .slice A13 o.f7.f1.length c13] 47)) W base own g (Vw.fresh o.f3) w.heap.size (.cells #[.int .i64 o.f0, .int .i64 o.f1, .int .i64 p, .int .i64 o.f3, .string o.f4.f0, .int .i64 o.f4.f1.f0, .int .i64 o.f4.f1.f1, .string o.f4.f1.f2, .slice A8 o.f4.f1.f3.length c8, .slice A9 o.f4.f2.length c9, .slice A10 o.f5.length c10, .slice A11 o.f6.length c11, .int .i64 o.f7.f0, .slice A13 o.f7.f1.length c13] 47 (0, 0))) ?_ ?_
  · exact ⟨_, _, _, _, FD1.out.1, hU1.trans FD1.out.2, (FD1.out.2.block _ (blk_lt hbx1) hob1).trans hbx1, (FD1.out.2).same _ (blk_lt hbx1) hob1, Nat.le_trans hbs1 (FD1.out.2).size⟩
  intro W2 ⟨o2, va2, vp2, lv2, hV2, hU2, hbx2, hob2, hbs2⟩
  go_upto_region 8 with (fail)
  refine wp_gen (fun W => VSt (w.alloc (.cells #[.int .i64 o.f0, .int .i64 o.f1, .int .i64 p, .int .i64 o.f3, .string o.f4.f0, .int .i64 o.f4.f1.f0, .int .i64 o.f4.f1.f1, .string o.f4.f1.f2, .slice A8 o.f4.f1.f3.length c8, .slice A9 o.f4.f2.length c9, .slice A10 o.f5.length c10, .slice A11 o.f6.length c11, .int .i64 o.f7.f0, .slice A13 o.f7.f1.length c13] 47)) W base own g (Vw.fresh o.f3) w.heap.size (.cells #[.int .i64 o.f0, .int .i64 o.f1, .int .i64 p, .int .i64 o.f3, .string o.f4.f0, .int .i64 o.f4.f1.f0, .int .i64 o.f4.f1.f1, .string o.f4.f1.f2, .slice A8 o.f4.f1.f3.length c8, .slice A9 o.f4.f2.length c9, .slice A10 o.f5.length c10, .slice A11 o.f6.length c11, .int .i64 o.f7.f0, .slice A13 o.f7.f1.length c13] 47 (0, 0))) ?_ ?_
  · exact ⟨_, _, _, _, hV2, hU2, hbx2, hob2, hbs2⟩
  intro W3 ⟨o3, va3, vp3, lv3, hV3, hU3, hbx3, hob3, hbs3⟩
  refine start_ (n := 7) (S := (fun w' => w'.cell? ⟨w.heap.size, 2, none⟩ = some (.int .i64 p))) (ds := [6]) #[false, false, false, false, false, false, false] (by kernel_rfl) rfl rfl (show W3.drew.cell? _ = _ from blk_at hbx3 2 rfl) (fun hHeld => ?_)
  refine pure_ (i := 0) (N := some 61) (v := ?_) (a' := ?_) #[true, false, false, false, false, false, false] rfl rfl (by kernel_rfl) (fun _ _ _ h => h) (Or.inl ⟨by rfl, ?_⟩) ?_ ?_
  rotate_left
  · intro w'
    go_simp
    with_reducible rfl
  rotate_left
  · simp only [Act.put, List.setIfInBounds_toArray, List.set_cons_zero, List.set_cons_succ]
    rfl
  refine pure_ (i := 1) (N := some 62) (v := ?_) (a' := ?_) #[true, true, false, false, false, false, false] rfl rfl (by kernel_rfl) (fun _ _ _ h => h) (Or.inl ⟨by rfl, ?_⟩) ?_ ?_
  rotate_left
  · intro w'
    go_simp
    with_reducible rfl
  rotate_left
  · simp only [Act.put, List.setIfInBounds_toArray, List.set_cons_zero, List.set_cons_succ]
    rfl
  refine take_ (i := 2) (N := some 63) (v := ?_) (a' := ?_) #[true, true, true, false, false, false, false] rfl rfl (by kernel_rfl) (fun _ _ _ h => h) (Or.inl ⟨by rfl, ?_⟩) hHeld ?_ ?_
  rotate_left
  · intro w' s0
    go_simp
    with_reducible rfl
  rotate_left
  · simp only [Act.put, List.setIfInBounds_toArray, List.set_cons_zero, List.set_cons_succ]
    rfl
  refine pure_ (i := 3) (N := some 64) (v := ?_) (a' := ?_) #[true, true, true, true, false, false, false] rfl rfl (by kernel_rfl) (fun _ _ _ h => h) (Or.inl ⟨by rfl, ?_⟩) ?_ ?_
  rotate_left
  · intro w'
    go_simp
    with_reducible rfl
  rotate_left
  · simp only [Act.put, List.setIfInBounds_toArray, List.set_cons_zero, List.set_cons_succ]
    rfl
  refine pure_ (i := 4) (N := some 65) (v := ?_) (a' := ?_) #[true, true, true, true, true, false, false] rfl rfl (by kernel_rfl) (fun _ _ _ h => h) (Or.inl ⟨by rfl, ?_⟩) ?_ ?_
  rotate_left
  · intro w'
    go_simp
    with_reducible rfl
  rotate_left
  · simp only [Act.put, List.setIfInBounds_toArray, List.set_cons_zero, List.set_cons_succ]
    rfl
  refine pure_ (i := 5) (N := some 66) (v := ?_) (a' := ?_) #[true, true, true, true, true, true, false] rfl rfl (by kernel_rfl) (fun _ _ _ h => h) (Or.inl ⟨by rfl, ?_⟩) ?_ ?_
  rotate_left
  · intro w'
    go_simp
    with_reducible rfl
  rotate_left
  · simp only [Act.put, List.setIfInBounds_toArray, List.set_cons_zero, List.set_cons_succ]
    rfl
  refine last_ (i := 6) (N := none) #[true, true, true, true, true, true, true] rfl rfl (by kernel_rfl) (by decide) (fun K hK => ?_)
  have hs := (show VwAt W3.drew base o3 g (Vw.fresh o.f3) va3 vp3 lv3 from hV3.below (Below.refl _ _).drew).shutc p hp4
  have hf : W3.drew.frozen? ⟨g, 5 + p, none⟩ = false := blk_frozen (hV3.below (Below.refl _ _).drew).hb (5 + p)
  refine skip_ (w1 := ?_) (by rfl) rfl ?_ ?_
  rotate_left
  · go_simp
    rfl
  refine hK.out _ _ ?_
  clear hK K hs hf
  refine done_ (by kernel_rfl) ?_
  clear hHeld
  have hog3 : o3 g ≠ 0 := by have := hV3.og; omega
  have HVd := Lib.hid ((hV3.below (Below.refl _ _).drew).setShut p hp4)
  have UD3 : Hid (Upd o3 W3 o3 _) := (Upd.of_below (Below.refl _ _).drew (fun _ _ => rfl)).set (p := ⟨g, 5 + p, none⟩) hog3 (.bool true)
  go_upto_region 9 with (fail)
  refine wp_gen (fun W => VSt (w.alloc (.cells #[.int .i64 o.f0, .int .i64 o.f1, .int .i64 p, .int .i64 o.f3, .string o.f4.f0, .int .i64 o.f4.f1.f0, .int .i64 o.f4.f1.f1, .string o.f4.f1.f2, .slice A8 o.f4.f1.f3.length c8, .slice A9 o.f4.f2.length c9, .slice A10 o.f5.length c10, .slice A11 o.f6.length c11, .int .i64 o.f7.f0, .slice A13 o.f7.f1.length c13] 47)) W base own g ((Vw.fresh o.f3).close p) w.heap.size (.cells #[.int .i64 o.f0, .int .i64 o.f1, .int .i64 p, .int .i64 o.f3, .string o.f4.f0, .int .i64 o.f4.f1.f0, .int .i64 o.f4.f1.f1, .string o.f4.f1.f2, .slice A8 o.f4.f1.f3.length c8, .slice A9 o.f4.f2.length c9, .slice A10 o.f5.length c10, .slice A11 o.f6.length c11, .int .i64 o.f7.f0, .slice A13 o.f7.f1.length c13] 47 (0, 0))) ?_ ?_
  · exact ⟨_, _, _, _, HVd.out, hU3.trans UD3.out, (UD3.out.block _ (blk_lt hbx3) hob3).trans hbx3, (UD3.out).same _ (blk_lt hbx3) hob3, Nat.le_trans hbs3 (UD3.out).size⟩
  clear HVd UD3
  intro W4 ⟨o4, va4, vp4, lv4, hV4, hU4, hbx4, hob4, hbs4⟩
  obtain ⟨vl, hvl⟩ : ∃ vl, lv4 p = vl := ⟨_, rfl⟩
  obtain ⟨xl, hxl⟩ : ∃ xl, ((Vw.fresh o.f3).close p).logs.getD p [] = xl := ⟨_, rfl⟩
  have HLV := Lib.hid hvl
  have HXL := Lib.hid hxl
  have HVl : Hid (W4.cell? ⟨g, 9 + p, none⟩ = some vl) := by rw [← hvl]; exact Lib.hid (hV4.logc p hp4)
  have HRp : Hid (Kd.R k45 45 W4 base (fun k => o4 k = 6 + p) vl xl) := by rw [← hvl, ← hxl]; exact Lib.hid (hV4.rl p hp4)
  have HLX : Hid (xl.length ≤ 1000000) := by
    rw [← hxl]
    show Hid (((Vw.fresh o.f3).logs.getD p []).length ≤ 1000000)
    rw [logs_fresh]; exact Lib.hid (Nat.zero_le _)
  have HLY : Hid (o.f5.length ≤ 1000000) := by have := partsRs_len o.f5; have := HU'.out.2.1; exact Lib.hid (by omega)
  have HX44 : Hid (∀ W, Below W4.heap.size W4 W → Calls Try.prog 44 #[.slice A10 o.f5.length c10] W fun e w' => ∃ v, e = .returned v ∧ Hid (Kd.R k45 45 w' W.heap.size (fun _ => True) v o.f5) ∧ Hid (Below W.heap.size W w')) := fun W hW => copyRecords44 o.f5 A10 c10 W (A10'.out _ _ ((HUA.out.trans hU4).trans (Upd.of_below hW (fun _ _ => rfl)))) L10.out HU'.out.2.1
  clear hvl hxl
  go_wp2
  refine start_ (n := 18) (S := (fun w' => w'.cell? ⟨g, 9 + p, none⟩ = some vl ∧ w'.cell? ⟨w.heap.size, 2, none⟩ = some (.int .i64 p) ∧ w'.cell? ⟨w.heap.size, 10, none⟩ = some (.slice A10 o.f5.length c10))) (ds := [17]) #[false, false, false, false, false, false, false, false, false, false, false, false, false, false, false, false, false, false] (by kernel_rfl) rfl rfl ⟨(show W4.drew.cell? _ = _ from HVl.out), (show W4.drew.cell? _ = _ from blk_at hbx4 2 rfl), (show W4.drew.cell? _ = _ from blk_at hbx4 10 rfl)⟩ (fun hHeld => ?_)
  have HBo : Hid (Below W4.heap.size W4 W4.drew) := (Below.refl _ _).drew
  generalize W4.drew = W at hHeld HBo ⊢
  refine pure_ (i := 0) (N := some 69) (v := ?_) (a' := ?_) #[true, false, false, false, false, false, false, false, false, false, false, false, false, false, false, false, false, false] rfl rfl (by kernel_rfl) (fun _ _ _ h => h) (Or.inl ⟨by rfl, ?_⟩) ?_ ?_
  rotate_left
  · intro w'
    go_simp
    with_reducible rfl
  rotate_left
  · simp only [Act.put, List.setIfInBounds_toArray, List.set_cons_zero, List.set_cons_succ]
    rfl
  refine pure_ (i := 1) (N := some 70) (v := ?_) (a' := ?_) #[true, true, false, false, false, false, false, false, false, false, false, false, false, false, false, false, false, false] rfl rfl (by kernel_rfl) (fun _ _ _ h => h) (Or.inl ⟨by rfl, ?_⟩) ?_ ?_
  rotate_left
  · intro w'
    go_simp
    with_reducible rfl
  rotate_left
  · simp only [Act.put, List.setIfInBounds_toArray, List.set_cons_zero, List.set_cons_succ]
    rfl
  refine take_ (i := 2) (N := some 71) (v := ?_) (a' := ?_) #[true, true, true, false, false, false, false, false, false, false, false, false, false, false, false, false, false, false] rfl rfl (by kernel_rfl) (fun _ _ _ h => h) (Or.inl ⟨by rfl, ?_⟩) hHeld ?_ ?_
  rotate_left
  · rintro w' ⟨s0, s1, s2⟩
    go_simp
    with_reducible rfl
  rotate_left
  · simp only [Act.put, List.setIfInBounds_toArray, List.set_cons_zero, List.set_cons_succ]
    rfl
  refine pure_ (i := 3) (N := some 72) (v := ?_) (a' := ?_) #[true, true, true, true, false, false, false, false, false, false, false, false, false, false, false, false, false, false] rfl rfl (by kernel_rfl) (fun _ _ _ h => h) (Or.inl ⟨by rfl, ?_⟩) ?_ ?_
  rotate_left
  · intro w'
    go_simp
    with_reducible rfl
  rotate_left
  · simp only [Act.put, List.setIfInBounds_toArray, List.set_cons_zero, List.set_cons_succ]
    rfl
  refine pure_ (i := 4) (N := some 73) (v := ?_) (a' := ?_) #[true, true, true, true, true, false, false, false, false, false, false, false, false, false, false, false, false, false] rfl rfl (by kernel_rfl) (fun _ _ _ h => h) (Or.inl ⟨by rfl, ?_⟩) ?_ ?_
  rotate_left
  · intro w'
    go_simp
    with_reducible rfl
  rotate_left
  · simp only [Act.put, List.setIfInBounds_toArray, List.set_cons_zero, List.set_cons_succ]
    rfl
  refine take_ (i := 5) (N := some 74) (v := ?_) (a' := ?_) #[true, true, true, true, true, true, false, false, false, false, false, false, false, false, false, false, false, false] rfl rfl (by kernel_rfl) (fun _ _ _ h => h) (Or.inl ⟨by rfl, ?_⟩) hHeld ?_ ?_
  rotate_left
  · rintro w' ⟨s0, s1, s2⟩
    go_simp
    with_reducible rfl
  rotate_left
  · simp only [Act.put, List.setIfInBounds_toArray, List.set_cons_zero, List.set_cons_succ]
    rfl
  refine pure_ (i := 6) (N := some 75) (v := ?_) (a' := ?_) #[true, true, true, true, true, true, true, false, false, false, false, false, false, false, false, false, false, false] rfl rfl (by kernel_rfl) (fun _ _ _ h => h) (Or.inl ⟨by rfl, ?_⟩) ?_ ?_
  rotate_left
  · intro w'
    go_simp
    with_reducible rfl
  rotate_left
  · simp only [Act.put, List.setIfInBounds_toArray, List.set_cons_zero, List.set_cons_succ]
    rfl
  refine pure_ (i := 7) (N := some 76) (v := ?_) (a' := ?_) #[true, true, true, true, true, true, true, true, false, false, false, false, false, false, false, false, false, false] rfl rfl (by kernel_rfl) (fun _ _ _ h => h) (Or.inl ⟨by rfl, ?_⟩) ?_ ?_
  rotate_left
  · intro w'
    go_simp
    with_reducible rfl
  rotate_left
  · simp only [Act.put, List.setIfInBounds_toArray, List.set_cons_zero, List.set_cons_succ]
    rfl
  refine pure_ (i := 8) (N := some 77) (v := ?_) (a' := ?_) #[true, true, true, true, true, true, true, true, true, false, false, false, false, false, false, false, false, false] rfl rfl (by kernel_rfl) (fun _ _ _ h => h) (Or.inl ⟨by rfl, ?_⟩) ?_ ?_
  rotate_left
  · intro w'
    go_simp
    with_reducible rfl
  rotate_left
  · simp only [Act.put, List.setIfInBounds_toArray, List.set_cons_zero, List.set_cons_succ]
    rfl
  refine take_ (i := 9) (N := some 78) (v := ?_) (a' := ?_) #[true, true, true, true, true, true, true, true, true, true, false, false, false, false, false, false, false, false] rfl rfl (by kernel_rfl) (fun _ _ _ h => h) (Or.inl ⟨by rfl, ?_⟩) hHeld ?_ ?_
  rotate_left
  · rintro w' ⟨s0, s1, s2⟩
    go_simp
    with_reducible rfl
  rotate_left
  · simp only [Act.put, List.setIfInBounds_toArray, List.set_cons_zero, List.set_cons_succ]
    rfl
  refine pure_ (i := 10) (N := some 79) (v := ?_) (a' := ?_) #[true, true, true, true, true, true, true, true, true, true, true, false, false, false, false, false, false, false] rfl rfl (by kernel_rfl) (fun _ _ _ h => h) (Or.inl ⟨by rfl, ?_⟩) ?_ ?_
  rotate_left
  · intro w'
    go_simp
    with_reducible rfl
  rotate_left
  · simp only [Act.put, List.setIfInBounds_toArray, List.set_cons_zero, List.set_cons_succ]
    rfl
  refine take_ (i := 11) (N := some 80) (v := ?_) (a' := ?_) #[true, true, true, true, true, true, true, true, true, true, true, true, false, false, false, false, false, false] rfl rfl (by kernel_rfl) (fun _ _ _ h => h) (Or.inl ⟨by rfl, ?_⟩) hHeld ?_ ?_
  rotate_left
  · rintro w' ⟨s0, s1, s2⟩
    go_simp
    with_reducible rfl
  rotate_left
  · simp only [Act.put, List.setIfInBounds_toArray, List.set_cons_zero, List.set_cons_succ]
    rfl
  refine pure_ (i := 14) (N := some 83) (v := ?_) (a' := ?_) #[true, true, true, true, true, true, true, true, true, true, true, true, false, false, true, false, false, false] rfl rfl (by kernel_rfl) (fun _ _ _ h => h) (Or.inl ⟨by rfl, ?_⟩) ?_ ?_
  rotate_left
  · intro w'
    go_simp
    with_reducible rfl
  rotate_left
  · simp only [Act.put, List.setIfInBounds_toArray, List.set_cons_zero, List.set_cons_succ]
    rfl
  refine pure_ (i := 15) (N := some 84) (v := ?_) (a' := ?_) #[true, true, true, true, true, true, true, true, true, true, true, true, false, false, true, true, false, false] rfl rfl (by kernel_rfl) (fun _ _ _ h => h) (Or.inl ⟨by rfl, ?_⟩) ?_ ?_
  rotate_left
  · intro w'
    go_simp
    with_reducible rfl
  rotate_left
  · simp only [Act.put, List.setIfInBounds_toArray, List.set_cons_zero, List.set_cons_succ]
    rfl
  refine one_ (i := 12) (N := some 81) #[true, true, true, true, true, true, true, true, true, true, true, true, true, false, true, true, false, false] rfl rfl (by kernel_rfl) (by decide) (fun K hK => ?_)
  refine goes_ Try.func44 (by kernel_rfl) rfl #[.slice A10 o.f5.length c10] (by rfl) rfl rfl (by simp only [List.map_toArray, List.map_cons, List.map_nil]; rfl) ?_
  refine (HX44.out W HBo.out).mono ?_
  rintro e w3 ⟨u, rfl, hu, hb3⟩
  refine ⟨_, rfl, ?_⟩
  obtain ⟨Au, cu, rfl⟩ := Kd.R_slice hu.out
  refine hK.out _ _ ⟨pw_cell_below hb3.out hHeld.1, pw_cell_below hb3.out hHeld.2.1, pw_cell_below hb3.out hHeld.2.2⟩ (fun hHeld => ?_)
  clear hK K
  refine norm_ (a' := ?_) ?_ ?_
  rotate_left
  · show Act.put _ (some 81) _ = _
    simp only [Act.put, List.setIfInBounds_toArray, List.set_cons_zero, List.set_cons_succ]
    rfl
  refine one_ (i := 13) (N := some 82) #[true, true, true, true, true, true, true, true, true, true, true, true, true, true, true, true, false, false] rfl rfl (by kernel_rfl) (by decide) (fun K hK => ?_)
  refine Kd.R_append_rows_step k45 (Rr := k45.M w3 base (fun k => W.heap.size ≤ k)) (w0 := w3) base (by rfl) (.tmp 78) (.tmp 81) 35 45 (.agg #[.string ⟨#[]⟩, .int .i64 0, .int .i64 0, .string ⟨#[]⟩, .slice none 0 0, .slice none 0 0]) 96 rfl Try.underlying35 info45 rfl (by decide) (by decide) vl xl o.f5 Au o.f5.length cu (fun k => o4 k = 6 + p ∨ W4.heap.size ≤ k) (fun k => W.heap.size ≤ k) rfl rfl ?hO ?hR (fun _ _ hp => hp) ?hok ?hfr (Below.refl _ _) ?hS ?hl ?_
  case hO => exact Kd.R_below (Kd.R_below (Kd.R_mono HRp.out (fun _ hk => .inl hk)) HBo.out) hb3.out
  case hR => exact R_readsM hu.out (Nat.le_trans hbs4 HBo.out.size)
  case hok => exact fun k hk => ⟨.inr (Nat.le_trans HBo.out.size hk), fun he => by have := Kd.R_lt HRp.out k he.symm; have := HBo.out.size; omega⟩
  case hfr => exact fun k hk => .inr (Nat.le_trans HBo.out.size (Nat.le_trans hb3.out.size hk))
  case hS => exact Nat.le_trans hbs4 (Nat.le_trans HBo.out.size hb3.out.size)
  case hl => have := HLX.out; have := HLY.out; omega
  intro v1 w4 hO4 hB4 hg4 hat4
  have HA := Lib.hid (hV4.setLog hbs4 p hp4 (HBo.out.trans (hb3.out.mono HBo.out.size)) (by rw [HLV.out]; exact hg4) (by rw [HXL.out]; exact hO4))
  obtain ⟨A1, m1, c1, rfl⟩ := R_sliced hO4
  have hlv4 : w4.cell? ⟨g, 9 + p, none⟩ = some vl := by
    rw [← HLV.out]
    refine blk_at HA.out.1 (9 + p) ?_
    match p, hp4 with
    | 0, _ => rfl
    | 1, _ => rfl
    | 2, _ => rfl
    | 3, _ => rfl
  have hf4 : w4.frozen? ⟨g, 9 + p, none⟩ = false := blk_frozen HA.out.1 (9 + p)
  have hbx4 : w4.heap[w.heap.size]? = some (.cells #[.int .i64 o.f0, .int .i64 o.f1, .int .i64 p, .int .i64 o.f3, .string o.f4.f0, .int .i64 o.f4.f1.f0, .int .i64 o.f4.f1.f1, .string o.f4.f1.f2, .slice A8 o.f4.f1.f3.length c8, .slice A9 o.f4.f2.length c9, .slice A10 o.f5.length c10, .slice A11 o.f6.length c11, .int .i64 o.f7.f0, .slice A13 o.f7.f1.length c13] 47 (0, 0)) := (hg4.block _ (Nat.lt_of_lt_of_le (blk_lt hbx4) (Nat.le_trans HBo.out.size hb3.out.size)) (fun e => by
    have h1 := HRp.out
    have h2 := h1.1 _ e.symm
    have h3 : o4 w.heap.size = 6 + p := h2
    have h4 : o4 w.heap.size = 0 := hob4
    omega)).trans ((hb3.out.block _ (Nat.lt_of_lt_of_le (blk_lt hbx4) HBo.out.size)).trans ((HBo.out.block _ (blk_lt hbx4)).trans hbx4))
  clear hO4 hB4 hg4 hat4
  refine hK.out _ _ ⟨hlv4, blk_at hbx4 2 rfl, blk_at hbx4 10 rfl⟩ (fun hHeld => ?_)
  clear hK K hbx4
  refine norm_ (a' := ?_) ?_ ?_
  rotate_left
  · show Act.put _ (some 82) _ = _
    simp only [Act.put, List.setIfInBounds_toArray, List.set_cons_zero, List.set_cons_succ]
    rfl
  refine pure_ (i := 16) (N := some 85) (v := ?_) (a' := ?_) #[true, true, true, true, true, true, true, true, true, true, true, true, true, true, true, true, true, false] rfl rfl (by kernel_rfl) (fun _ _ _ h => h) (Or.inl ⟨by rfl, ?_⟩) ?_ ?_
  rotate_left
  · intro w'
    go_simp
    with_reducible rfl
  rotate_left
  · simp only [Act.put, List.setIfInBounds_toArray, List.set_cons_zero, List.set_cons_succ]
    rfl
  refine last_ (i := 17) (N := none) #[true, true, true, true, true, true, true, true, true, true, true, true, true, true, true, true, true, true] rfl rfl (by kernel_rfl) (by decide) (fun K hK => ?_)
  refine skip_ (w1 := ?_) (by rfl) rfl ?_ ?_
  rotate_left
  · go_simp
    rfl
  refine hK.out _ _ ?_
  clear hK K hlv4 hf4
  refine done_ (by kernel_rfl) ?_
  clear hHeld
  go_wp2
  go_end0
  exact ⟨rfl, _, ⟨_, _, _, HA.out.2.1⟩, HUA.out.trans (hU4.trans HA.out.2.2)⟩
set_option maxRecDepth 100000 in
set_option maxHeartbeats 4000000 in
theorem sees21_fresh_false_no (h : VwAt w base own g v va vp lv) (hbase : base ≤ w.heap.size) (o : S47) (A8 : Option Addr) (c8 : Nat) (A9 : Option Addr) (c9 : Nat) (A10 : Option Addr) (c10 : Nat) (A11 : Option Addr) (c11 : Nat) (A13 : Option Addr) (c13 : Nat) (p : Nat) (hp4 : p < 4) (mode : Int) (a10 : Away k45 own w A10 o.f5) (l10 : o.f5.length ≤ c10) (a11 : Away k45 own w A11 o.f6) (l11 : o.f6.length ≤ c11) (a13 : Away k104 own w A13 o.f7.f1) (l13 : o.f7.f1.length ≤ c13) (hu : partsC o.f7.f1 ≤ 100000 ∧ partsRs o.f5 ≤ 100000 ∧ partsRs o.f6 ≤ 100000) (hlg : ∀ i, (v.logs.getD i []).length ≤ 1000000) (d1 : decide (o.f3 < v.id) = false) (d2 : (o.f3 == v.id) = false) (d3 : decide (v.id < o.f3) = true) (d5 : (mode == 3) = false) : Calls Try.prog 21 #[.pointer (some ⟨g, 0, none⟩), .agg #[.int .i64 o.f0, .int .i64 o.f1, .int .i64 p, .int .i64 o.f3, .string o.f4.f0, .int .i64 o.f4.f1.f0, .int .i64 o.f4.f1.f1, .string o.f4.f1.f2, .slice A8 o.f4.f1.f3.length c8, .slice A9 o.f4.f2.length c9, .slice A10 o.f5.length c10, .slice A11 o.f6.length c11, .int .i64 o.f7.f0, .slice A13 o.f7.f1.length c13], .bool false, .int .i64 mode] w fun e w' => e = .returned (.tuple #[]) ∧ VwPost base own g ((Vw.fresh o.f3).close p) w w' := by
  have HV0 : Hid (VwAt (w.alloc (.cells #[.int .i64 o.f0, .int .i64 o.f1, .int .i64 p, .int .i64 o.f3, .string o.f4.f0, .int .i64 o.f4.f1.f0, .int .i64 o.f4.f1.f1, .string o.f4.f1.f2, .slice A8 o.f4.f1.f3.length c8, .slice A9 o.f4.f2.length c9, .slice A10 o.f5.length c10, .slice A11 o.f6.length c11, .int .i64 o.f7.f0, .slice A13 o.f7.f1.length c13] 47)) base own g v va vp lv) := h.below ((Below.refl _ _).alloc (Nat.le_refl _) _)
  have HUA : Hid (Upd own w own (w.alloc (.cells #[.int .i64 o.f0, .int .i64 o.f1, .int .i64 p, .int .i64 o.f3, .string o.f4.f0, .int .i64 o.f4.f1.f0, .int .i64 o.f4.f1.f1, .string o.f4.f1.f2, .slice A8 o.f4.f1.f3.length c8, .slice A9 o.f4.f2.length c9, .slice A10 o.f5.length c10, .slice A11 o.f6.length c11, .int .i64 o.f7.f0, .slice A13 o.f7.f1.length c13] 47))) := Upd.of_below ((Below.refl _ _).alloc (Nat.le_refl _) _) (fun _ _ => rfl)
  have HX0 : Hid (((w.alloc (.cells #[.int .i64 o.f0, .int .i64 o.f1, .int .i64 p, .int .i64 o.f3, .string o.f4.f0, .int .i64 o.f4.f1.f0, .int .i64 o.f4.f1.f1, .string o.f4.f1.f2, .slice A8 o.f4.f1.f3.length c8, .slice A9 o.f4.f2.length c9, .slice A10 o.f5.length c10, .slice A11 o.f6.length c11, .int .i64 o.f7.f0, .slice A13 o.f7.f1.length c13] 47))).heap[w.heap.size]? = some (.cells #[.int .i64 o.f0, .int .i64 o.f1, .int .i64 p, .int .i64 o.f3, .string o.f4.f0, .int .i64 o.f4.f1.f0, .int .i64 o.f4.f1.f1, .string o.f4.f1.f2, .slice A8 o.f4.f1.f3.length c8, .slice A9 o.f4.f2.length c9, .slice A10 o.f5.length c10, .slice A11 o.f6.length c11, .int .i64 o.f7.f0, .slice A13 o.f7.f1.length c13] 47 (0, 0))) := blk_new w _
  have HFR : Hid (own w.heap.size = 0) := h.free (Nat.le_refl _)
  have Hbase := Lib.hid hbase
  have hgl : g < w.heap.size := h.glt
  have c0 : w.cell? ⟨g, 0, none⟩ = some (.int .i64 v.id) := blk_at h.hb 0 rfl
  have cp := h.shutc p hp4
  have i1 : (0 : Int) ≤ (p : Int) := by omega
  have i2 : (p : Int) < 4 := by omega
  have A10' := Lib.hid a10
  have A11' := Lib.hid a11
  have A13' := Lib.hid a13
  have L10 := Lib.hid l10
  have L11 := Lib.hid l11
  have L13 := Lib.hid l13
  have HU' := Lib.hid hu
  have HLG := Lib.hid hlg
  clear h hbase a10 l10 a11 l11 a13 l13 hu hlg
  go_enter Try.func21, Try.ntmps21
  go_wp2
  go_quiet (fail)
  go_wp2
  go_quiet (fail)
  go_upto_region 3 with (fail)
  clear c0 cp d1 d2 d3
  refine wp_gen (fun W => VSt (w.alloc (.cells #[.int .i64 o.f0, .int .i64 o.f1, .int .i64 p, .int .i64 o.f3, .string o.f4.f0, .int .i64 o.f4.f1.f0, .int .i64 o.f4.f1.f1, .string o.f4.f1.f2, .slice A8 o.f4.f1.f3.length c8, .slice A9 o.f4.f2.length c9, .slice A10 o.f5.length c10, .slice A11 o.f6.length c11, .int .i64 o.f7.f0, .slice A13 o.f7.f1.length c13] 47)) W base own g v w.heap.size (.cells #[.int .i64 o.f0, .int .i64 o.f1, .int .i64 p, .int .i64 o.f3, .string o.f4.f0, .int .i64 o.f4.f1.f0, .int .i64 o.f4.f1.f1, .string o.f4.f1.f2, .slice A8 o.f4.f1.f3.length c8, .slice A9 o.f4.f2.length c9, .slice A10 o.f5.length c10, .slice A11 o.f6.length c11, .int .i64 o.f7.f0, .slice A13 o.f7.f1.length c13] 47 (0, 0))) ?_ ?_
  · exact ⟨own, va, vp, lv, HV0.out.below (pw_below_drewN (pw_below_drewN (Below.refl _ _) _) _), Upd.of_below (pw_below_drewN (pw_below_drewN (Below.refl _ _) _) _) (fun _ _ => rfl), HX0.out, HFR.out, Nat.le_trans Hbase.out (by simp)⟩
  intro W1 ⟨o1, va1, vp1, lv1, hV1, hU1, hbx1, hob1, hbs1⟩
  have x3 : W1.cell? ⟨w.heap.size, 3, none⟩ = some (.int .i64 o.f3) := blk_at hbx1 3 rfl
  have y0 : W1.cell? ⟨g, 0, none⟩ = some (.int .i64 v.id) := blk_at hV1.hb 0 rfl
  have z0 : W1.frozen? ⟨g, 0, none⟩ = false := blk_frozen hV1.hb 0
  have y1 : W1.cell? ⟨g, 1, none⟩ = some (.bool v.copied) := blk_at hV1.hb 1 rfl
  have z1 : W1.frozen? ⟨g, 1, none⟩ = false := blk_frozen hV1.hb 1
  have y2 : W1.cell? ⟨g, 2, none⟩ = some (.int .i64 v.st.f0) := blk_at hV1.hb 2 rfl
  have z2 : W1.frozen? ⟨g, 2, none⟩ = false := blk_frozen hV1.hb 2
  have y3 : W1.cell? ⟨g, 3, none⟩ = some (va1) := blk_at hV1.hb 3 rfl
  have z3 : W1.frozen? ⟨g, 3, none⟩ = false := blk_frozen hV1.hb 3
  have y4 : W1.cell? ⟨g, 4, none⟩ = some (vp1) := blk_at hV1.hb 4 rfl
  have z4 : W1.frozen? ⟨g, 4, none⟩ = false := blk_frozen hV1.hb 4
  have y5 : W1.cell? ⟨g, 5, none⟩ = some (.bool (v.shut 0)) := blk_at hV1.hb 5 rfl
  have z5 : W1.frozen? ⟨g, 5, none⟩ = false := blk_frozen hV1.hb 5
  have y6 : W1.cell? ⟨g, 6, none⟩ = some (.bool (v.shut 1)) := blk_at hV1.hb 6 rfl
  have z6 : W1.frozen? ⟨g, 6, none⟩ = false := blk_frozen hV1.hb 6
  have y7 : W1.cell? ⟨g, 7, none⟩ = some (.bool (v.shut 2)) := blk_at hV1.hb 7 rfl
  have z7 : W1.frozen? ⟨g, 7, none⟩ = false := blk_frozen hV1.hb 7
  have y8 : W1.cell? ⟨g, 8, none⟩ = some (.bool (v.shut 3)) := blk_at hV1.hb 8 rfl
  have z8 : W1.frozen? ⟨g, 8, none⟩ = false := blk_frozen hV1.hb 8
  have y9 : W1.cell? ⟨g, 9, none⟩ = some (lv1 0) := blk_at hV1.hb 9 rfl
  have z9 : W1.frozen? ⟨g, 9, none⟩ = false := blk_frozen hV1.hb 9
  have y10 : W1.cell? ⟨g, 10, none⟩ = some (lv1 1) := blk_at hV1.hb 10 rfl
  have z10 : W1.frozen? ⟨g, 10, none⟩ = false := blk_frozen hV1.hb 10
  have y11 : W1.cell? ⟨g, 11, none⟩ = some (lv1 2) := blk_at hV1.hb 11 rfl
  have z11 : W1.frozen? ⟨g, 11, none⟩ = false := blk_frozen hV1.hb 11
  have y12 : W1.cell? ⟨g, 12, none⟩ = some (lv1 3) := blk_at hV1.hb 12 rfl
  have z12 : W1.frozen? ⟨g, 12, none⟩ = false := blk_frozen hV1.hb 12
  have y13 : W1.cell? ⟨g, 13, none⟩ = some (.bool v.handed) := blk_at hV1.hb 13 rfl
  have z13 : W1.frozen? ⟨g, 13, none⟩ = false := blk_frozen hV1.hb 13
  have FD1 := Lib.hid (hV1.freshd o.f3)
  go_upto_region 4 with (fail)
  clear x3 y0 z0 y1 z1 y2 z2 y3 z3 y4 z4 y5 z5 y6 z6 y7 z7 y8 z8 y9 z9 y10 z10 y11 z11 y12 z12 y13 z13
  refine wp_gen (fun W => VSt (w.alloc (.cells #[.int .i64 o.f0, .int .i64 o.f1, .int .i64 p, .int .i64 o.f3, .string o.f4.f0, .int .i64 o.f4.f1.f0, .int .i64 o.f4.f1.f1, .string o.f4.f1.f2, .slice A8 o.f4.f1.f3.length c8, .slice A9 o.f4.f2.length c9, .slice A10 o.f5.length c10, .slice A11 o.f6.length c11, .int .i64 o.f7.f0, .slice A13 o.f7.f1.length c13] 47)) W base own g (Vw.fresh o.f3) w.heap.size (.cells #[.int .i64 o.f0, .int .i64 o.f1, .int .i64 p, .int .i64 o.f3, .string o.f4.f0, .int .i64 o.f4.f1.f0, .int .i64 o.f4.f1.f1, .string o.f4.f1.f2, .slice A8 o.f4.f1.f3.length c8, .slice A9 o.f4.f2.length c9, .slice A10 o.f5.length c10, .slice A11 o.f6.length c11, .int .i64 o.f7.f0, .slice A13 o.f7.f1.length c13] 47 (0, 0))) ?_ ?_
  · exact ⟨_, _, _, _, FD1.out.1, hU1.trans FD1.out.2, (FD1.out.2.block _ (blk_lt hbx1) hob1).trans hbx1, (FD1.out.2).same _ (blk_lt hbx1) hob1, Nat.le_trans hbs1 (FD1.out.2).size⟩
  intro W2 ⟨o2, va2, vp2, lv2, hV2, hU2, hbx2, hob2, hbs2⟩
  go_upto_region 8 with (fail)
  refine wp_gen (fun W => VSt (w.alloc (.cells #[.int .i64 o.f0, .int .i64 o.f1, .int .i64 p, .int .i64 o.f3, .string o.f4.f0, .int .i64 o.f4.f1.f0, .int .i64 o.f4.f1.f1, .string o.f4.f1.f2, .slice A8 o.f4.f1.f3.length c8, .slice A9 o.f4.f2.length c9, .slice A10 o.f5.length c10, .slice A11 o.f6.length c11, .int .i64 o.f7.f0, .slice A13 o.f7.f1.length c13] 47)) W base own g (Vw.fresh o.f3) w.heap.size (.cells #[.int .i64 o.f0, .int .i64 o.f1, .int .i64 p, .int .i64 o.f3, .string o.f4.f0, .int .i64 o.f4.f1.f0, .int .i64 o.f4.f1.f1, .string o.f4.f1.f2, .slice A8 o.f4.f1.f3.length c8, .slice A9 o.f4.f2.length c9, .slice A10 o.f5.length c10, .slice A11 o.f6.length c11, .int .i64 o.f7.f0, .slice A13 o.f7.f1.length c13] 47 (0, 0))) ?_ ?_
  · exact ⟨_, _, _, _, hV2, hU2, hbx2, hob2, hbs2⟩
  intro W3 ⟨o3, va3, vp3, lv3, hV3, hU3, hbx3, hob3, hbs3⟩
  refine start_ (n := 7) (S := (fun w' => w'.cell? ⟨w.heap.size, 2, none⟩ = some (.int .i64 p))) (ds := [6]) #[false, false, false, false, false, false, false] (by kernel_rfl) rfl rfl (show W3.drew.cell? _ = _ from blk_at hbx3 2 rfl) (fun hHeld => ?_)
  refine pure_ (i := 0) (N := some 61) (v := ?_) (a' := ?_) #[true, false, false, false, false, false, false] rfl rfl (by kernel_rfl) (fun _ _ _ h => h) (Or.inl ⟨by rfl, ?_⟩) ?_ ?_
  rotate_left
  · intro w'
    go_simp
    with_reducible rfl
  rotate_left
  · simp only [Act.put, List.setIfInBounds_toArray, List.set_cons_zero, List.set_cons_succ]
    rfl
  refine pure_ (i := 1) (N := some 62) (v := ?_) (a' := ?_) #[true, true, false, false, false, false, false] rfl rfl (by kernel_rfl) (fun _ _ _ h => h) (Or.inl ⟨by rfl, ?_⟩) ?_ ?_
  rotate_left
  · intro w'
    go_simp
    with_reducible rfl
  rotate_left
  · simp only [Act.put, List.setIfInBounds_toArray, List.set_cons_zero, List.set_cons_succ]
    rfl
  refine take_ (i := 2) (N := some 63) (v := ?_) (a' := ?_) #[true, true, true, false, false, false, false] rfl rfl (by kernel_rfl) (fun _ _ _ h => h) (Or.inl ⟨by rfl, ?_⟩) hHeld ?_ ?_
  rotate_left
  · intro w' s0
    go_simp
    with_reducible rfl
  rotate_left
  · simp only [Act.put, List.setIfInBounds_toArray, List.set_cons_zero, List.set_cons_succ]
    rfl
  refine pure_ (i := 3) (N := some 64) (v := ?_) (a' := ?_) #[true, true, true, true, false, false, false] rfl rfl (by kernel_rfl) (fun _ _ _ h => h) (Or.inl ⟨by rfl, ?_⟩) ?_ ?_
  rotate_left
  · intro w'
    go_simp
    with_reducible rfl
  rotate_left
  · simp only [Act.put, List.setIfInBounds_toArray, List.set_cons_zero, List.set_cons_succ]
    rfl
  refine pure_ (i := 4) (N := some 65) (v := ?_) (a' := ?_) #[true, true, true, true, true, false, false] rfl rfl (by kernel_rfl) (fun _ _ _ h => h) (Or.inl ⟨by rfl, ?_⟩) ?_ ?_
  rotate_left
  · intro w'
    go_simp
    with_reducible rfl
  rotate_left
  · simp only [Act.put, List.setIfInBounds_toArray, List.set_cons_zero, List.set_cons_succ]
    rfl
  refine pure_ (i := 5) (N := some 66) (v := ?_) (a' := ?_) #[true, true, true, true, true, true, false] rfl rfl (by kernel_rfl) (fun _ _ _ h => h) (Or.inl ⟨by rfl, ?_⟩) ?_ ?_
  rotate_left
  · intro w'
    go_simp
    with_reducible rfl
  rotate_left
  · simp only [Act.put, List.setIfInBounds_toArray, List.set_cons_zero, List.set_cons_succ]
    rfl
  refine last_ (i := 6) (N := none) #[true, true, true, true, true, true, true] rfl rfl (by kernel_rfl) (by decide) (fun K hK => ?_)
  have hs := (show VwAt W3.drew base o3 g (Vw.fresh o.f3) va3 vp3 lv3 from hV3.below (Below.refl _ _).drew).shutc p hp4
  have hf : W3.drew.frozen? ⟨g, 5 + p, none⟩ = false := blk_frozen (hV3.below (Below.refl _ _).drew).hb (5 + p)
  refine skip_ (w1 := ?_) (by rfl) rfl ?_ ?_
  rotate_left
  · go_simp
    rfl
  refine hK.out _ _ ?_
  clear hK K hs hf
  refine done_ (by kernel_rfl) ?_
  clear hHeld
  have hog3 : o3 g ≠ 0 := by have := hV3.og; omega
  have HVd := Lib.hid ((hV3.below (Below.refl _ _).drew).setShut p hp4)
  have UD3 : Hid (Upd o3 W3 o3 _) := (Upd.of_below (Below.refl _ _).drew (fun _ _ => rfl)).set (p := ⟨g, 5 + p, none⟩) hog3 (.bool true)
  go_upto_region 9 with (fail)
  refine wp_gen (fun W => VSt (w.alloc (.cells #[.int .i64 o.f0, .int .i64 o.f1, .int .i64 p, .int .i64 o.f3, .string o.f4.f0, .int .i64 o.f4.f1.f0, .int .i64 o.f4.f1.f1, .string o.f4.f1.f2, .slice A8 o.f4.f1.f3.length c8, .slice A9 o.f4.f2.length c9, .slice A10 o.f5.length c10, .slice A11 o.f6.length c11, .int .i64 o.f7.f0, .slice A13 o.f7.f1.length c13] 47)) W base own g ((Vw.fresh o.f3).close p) w.heap.size (.cells #[.int .i64 o.f0, .int .i64 o.f1, .int .i64 p, .int .i64 o.f3, .string o.f4.f0, .int .i64 o.f4.f1.f0, .int .i64 o.f4.f1.f1, .string o.f4.f1.f2, .slice A8 o.f4.f1.f3.length c8, .slice A9 o.f4.f2.length c9, .slice A10 o.f5.length c10, .slice A11 o.f6.length c11, .int .i64 o.f7.f0, .slice A13 o.f7.f1.length c13] 47 (0, 0))) ?_ ?_
  · exact ⟨_, _, _, _, HVd.out, hU3.trans UD3.out, (UD3.out.block _ (blk_lt hbx3) hob3).trans hbx3, (UD3.out).same _ (blk_lt hbx3) hob3, Nat.le_trans hbs3 (UD3.out).size⟩
  clear HVd UD3
  intro W4 ⟨o4, va4, vp4, lv4, hV4, hU4, hbx4, hob4, hbs4⟩
  go_wp2
  go_end0
  exact ⟨rfl, _, ⟨_, _, _, hV4⟩, HUA.out.trans hU4⟩
set_option maxRecDepth 100000 in
set_option maxHeartbeats 4000000 in
theorem sees21_same_true_log (h : VwAt w base own g v va vp lv) (hbase : base ≤ w.heap.size) (o : S47) (A8 : Option Addr) (c8 : Nat) (A9 : Option Addr) (c9 : Nat) (A10 : Option Addr) (c10 : Nat) (A11 : Option Addr) (c11 : Nat) (A13 : Option Addr) (c13 : Nat) (p : Nat) (hp4 : p < 4) (mode : Int) (a10 : Away k45 own w A10 o.f5) (l10 : o.f5.length ≤ c10) (a11 : Away k45 own w A11 o.f6) (l11 : o.f6.length ≤ c11) (a13 : Away k104 own w A13 o.f7.f1) (l13 : o.f7.f1.length ≤ c13) (hu : partsC o.f7.f1 ≤ 100000 ∧ partsRs o.f5 ≤ 100000 ∧ partsRs o.f6 ≤ 100000) (hlg : ∀ i, (v.logs.getD i []).length ≤ 1000000) (d1 : decide (o.f3 < v.id) = false) (d2 : (o.f3 == v.id) = true) (d4 : v.shut p = false) (d3 : decide (v.id < o.f3) = false) (d5 : (mode == 3) = true) : Calls Try.prog 21 #[.pointer (some ⟨g, 0, none⟩), .agg #[.int .i64 o.f0, .int .i64 o.f1, .int .i64 p, .int .i64 o.f3, .string o.f4.f0, .int .i64 o.f4.f1.f0, .int .i64 o.f4.f1.f1, .string o.f4.f1.f2, .slice A8 o.f4.f1.f3.length c8, .slice A9 o.f4.f2.length c9, .slice A10 o.f5.length c10, .slice A11 o.f6.length c11, .int .i64 o.f7.f0, .slice A13 o.f7.f1.length c13], .bool true, .int .i64 mode] w fun e w' => e = .returned (.tuple #[]) ∧ VwPost base own g ((((v.cop.stt o.f7).pnd o.f6).close p).logged p o.f5) w w' := by
  have HV0 : Hid (VwAt (w.alloc (.cells #[.int .i64 o.f0, .int .i64 o.f1, .int .i64 p, .int .i64 o.f3, .string o.f4.f0, .int .i64 o.f4.f1.f0, .int .i64 o.f4.f1.f1, .string o.f4.f1.f2, .slice A8 o.f4.f1.f3.length c8, .slice A9 o.f4.f2.length c9, .slice A10 o.f5.length c10, .slice A11 o.f6.length c11, .int .i64 o.f7.f0, .slice A13 o.f7.f1.length c13] 47)) base own g v va vp lv) := h.below ((Below.refl _ _).alloc (Nat.le_refl _) _)
  have HUA : Hid (Upd own w own (w.alloc (.cells #[.int .i64 o.f0, .int .i64 o.f1, .int .i64 p, .int .i64 o.f3, .string o.f4.f0, .int .i64 o.f4.f1.f0, .int .i64 o.f4.f1.f1, .string o.f4.f1.f2, .slice A8 o.f4.f1.f3.length c8, .slice A9 o.f4.f2.length c9, .slice A10 o.f5.length c10, .slice A11 o.f6.length c11, .int .i64 o.f7.f0, .slice A13 o.f7.f1.length c13] 47))) := Upd.of_below ((Below.refl _ _).alloc (Nat.le_refl _) _) (fun _ _ => rfl)
  have HX0 : Hid (((w.alloc (.cells #[.int .i64 o.f0, .int .i64 o.f1, .int .i64 p, .int .i64 o.f3, .string o.f4.f0, .int .i64 o.f4.f1.f0, .int .i64 o.f4.f1.f1, .string o.f4.f1.f2, .slice A8 o.f4.f1.f3.length c8, .slice A9 o.f4.f2.length c9, .slice A10 o.f5.length c10, .slice A11 o.f6.length c11, .int .i64 o.f7.f0, .slice A13 o.f7.f1.length c13] 47))).heap[w.heap.size]? = some (.cells #[.int .i64 o.f0, .int .i64 o.f1, .int .i64 p, .int .i64 o.f3, .string o.f4.f0, .int .i64 o.f4.f1.f0, .int .i64 o.f4.f1.f1, .string o.f4.f1.f2, .slice A8 o.f4.f1.f3.length c8, .slice A9 o.f4.f2.length c9, .slice A10 o.f5.length c10, .slice A11 o.f6.length c11, .int .i64 o.f7.f0, .slice A13 o.f7.f1.length c13] 47 (0, 0))) := blk_new w _
  have HFR : Hid (own w.heap.size = 0) := h.free (Nat.le_refl _)
  have Hbase := Lib.hid hbase
  have hgl : g < w.heap.size := h.glt
  have c0 : w.cell? ⟨g, 0, none⟩ = some (.int .i64 v.id) := blk_at h.hb 0 rfl
  have cp := h.shutc p hp4
  have i1 : (0 : Int) ≤ (p : Int) := by omega
  have i2 : (p : Int) < 4 := by omega
  have A10' := Lib.hid a10
  have A11' := Lib.hid a11
  have A13' := Lib.hid a13
  have L10 := Lib.hid l10
  have L11 := Lib.hid l11
  have L13 := Lib.hid l13
  have HU' := Lib.hid hu
  have HLG := Lib.hid hlg
  rw [d4] at cp
  clear d4
  clear h hbase a10 l10 a11 l11 a13 l13 hu hlg
  go_enter Try.func21, Try.ntmps21
  go_wp2
  go_quiet (fail)
  go_wp2
  go_quiet (fail)
  go_upto_region 4 with (fail)
  clear c0 cp d1 d2 d3
  refine wp_gen (fun W => VSt (w.alloc (.cells #[.int .i64 o.f0, .int .i64 o.f1, .int .i64 p, .int .i64 o.f3, .string o.f4.f0, .int .i64 o.f4.f1.f0, .int .i64 o.f4.f1.f1, .string o.f4.f1.f2, .slice A8 o.f4.f1.f3.length c8, .slice A9 o.f4.f2.length c9, .slice A10 o.f5.length c10, .slice A11 o.f6.length c11, .int .i64 o.f7.f0, .slice A13 o.f7.f1.length c13] 47)) W base own g v w.heap.size (.cells #[.int .i64 o.f0, .int .i64 o.f1, .int .i64 p, .int .i64 o.f3, .string o.f4.f0, .int .i64 o.f4.f1.f0, .int .i64 o.f4.f1.f1, .string o.f4.f1.f2, .slice A8 o.f4.f1.f3.length c8, .slice A9 o.f4.f2.length c9, .slice A10 o.f5.length c10, .slice A11 o.f6.length c11, .int .i64 o.f7.f0, .slice A13 o.f7.f1.length c13] 47 (0, 0))) ?_ ?_
  · exact ⟨own, va, vp, lv, HV0.out.below (pw_below_drewN (pw_below_drewN (Below.refl _ _) _) _), Upd.of_below (pw_below_drewN (pw_below_drewN (Below.refl _ _) _) _) (fun _ _ => rfl), HX0.out, HFR.out, Nat.le_trans Hbase.out (by simp)⟩
  intro W1 ⟨o1, va1, vp1, lv1, hV1, hU1, hbx1, hob1, hbs1⟩
  have y1 : W1.cell? ⟨g, 1, none⟩ = some (.bool v.copied) := blk_at hV1.hb 1 rfl
  have z1 : W1.frozen? ⟨g, 1, none⟩ = false := blk_frozen hV1.hb 1
  have hog1 : o1 g ≠ 0 := by have := hV1.og; omega
  have UD1 := Lib.hid ((Upd.refl o1 W1).set (p := ⟨g, 1, none⟩) hog1 (.bool true))
  go_upto_region 6 with (fail)
  clear y1 z1
  refine wp_gen (fun W => VSt (w.alloc (.cells #[.int .i64 o.f0, .int .i64 o.f1, .int .i64 p, .int .i64 o.f3, .string o.f4.f0, .int .i64 o.f4.f1.f0, .int .i64 o.f4.f1.f1, .string o.f4.f1.f2, .slice A8 o.f4.f1.f3.length c8, .slice A9 o.f4.f2.length c9, .slice A10 o.f5.length c10, .slice A11 o.f6.length c11, .int .i64 o.f7.f0, .slice A13 o.f7.f1.length c13] 47)) W base own g v.cop w.heap.size (.cells #[.int .i64 o.f0, .int .i64 o.f1, .int .i64 p, .int .i64 o.f3, .string o.f4.f0, .int .i64 o.f4.f1.f0, .int .i64 o.f4.f1.f1, .string o.f4.f1.f2, .slice A8 o.f4.f1.f3.length c8, .slice A9 o.f4.f2.length c9, .slice A10 o.f5.length c10, .slice A11 o.f6.length c11, .int .i64 o.f7.f0, .slice A13 o.f7.f1.length c13] 47 (0, 0))) ?_ ?_
  · exact ⟨_, _, _, _, hV1.setCop, hU1.trans UD1.out, (UD1.out.block _ (blk_lt hbx1) hob1).trans hbx1, (UD1.out).same _ (blk_lt hbx1) hob1, Nat.le_trans hbs1 (UD1.out).size⟩
  intro W2 ⟨o2, va2, vp2, lv2, hV2, hU2, hbx2, hob2, hbs2⟩
  have x12 : W2.cell? ⟨w.heap.size, 12, none⟩ = some (.int .i64 o.f7.f0) := blk_at hbx2 12 rfl
  have x13 : W2.cell? ⟨w.heap.size, 13, none⟩ = some (.slice A13 o.f7.f1.length c13) := blk_at hbx2 13 rfl
  have HC43 := Lib.hid (copyState43 o.f7 A13 c13 W2 (A13'.out _ _ (HUA.out.trans hU2)) L13.out HU'.out.1)
  go_upto_region 7 with (first
          | (go_at_call 43; refine HC43.out.mono ?_; rintro e w2 ⟨u, rfl, hu2, hb2⟩
             obtain ⟨Bu, du, rfl⟩ := Kd.R_slice hu2.out
             have GR2 := Lib.hid (hV2.grow hbs2 hb2.out 4)
             have y2 : w2.cell? ⟨g, 2, none⟩ = some (.int .i64 v.cop.st.f0) := blk_at GR2.out.1.hb 2 rfl
             have z2 : w2.frozen? ⟨g, 2, none⟩ = false := blk_frozen GR2.out.1.hb 2
             have y3 : w2.cell? ⟨g, 3, none⟩ = some (va2) := blk_at GR2.out.1.hb 3 rfl
             have z3 : w2.frozen? ⟨g, 3, none⟩ = false := blk_frozen GR2.out.1.hb 3
             have HRU := Lib.hid (R_tagged (own := o2) (t := 4) hu2.out hbs2)
             clear hu2 hb2))
  clear x12 x13 y2 z2 y3 z3 HC43
  have hogg : tagged o2 W2.heap.size w2.heap.size 4 g ≠ 0 := by have := GR2.out.1.og; omega
  have UE2 : Upd o2 W2 _ _ := GR2.out.2.trans (((Upd.refl _ w2).set (p := ⟨g, 2, none⟩) hogg (.int .i64 o.f7.f0)).set (p := ⟨g, 3, none⟩) hogg (.slice Bu o.f7.f1.length du))
  refine wp_gen (fun W => VSt (w.alloc (.cells #[.int .i64 o.f0, .int .i64 o.f1, .int .i64 p, .int .i64 o.f3, .string o.f4.f0, .int .i64 o.f4.f1.f0, .int .i64 o.f4.f1.f1, .string o.f4.f1.f2, .slice A8 o.f4.f1.f3.length c8, .slice A9 o.f4.f2.length c9, .slice A10 o.f5.length c10, .slice A11 o.f6.length c11, .int .i64 o.f7.f0, .slice A13 o.f7.f1.length c13] 47)) W base own g (v.cop.stt o.f7) w.heap.size (.cells #[.int .i64 o.f0, .int .i64 o.f1, .int .i64 p, .int .i64 o.f3, .string o.f4.f0, .int .i64 o.f4.f1.f0, .int .i64 o.f4.f1.f1, .string o.f4.f1.f2, .slice A8 o.f4.f1.f3.length c8, .slice A9 o.f4.f2.length c9, .slice A10 o.f5.length c10, .slice A11 o.f6.length c11, .int .i64 o.f7.f0, .slice A13 o.f7.f1.length c13] 47 (0, 0))) ?_ ?_
  · exact ⟨_, _, _, _, GR2.out.1.setSt HRU.out, hU2.trans UE2, (UE2.block _ (blk_lt hbx2) hob2).trans hbx2, (UE2).same _ (blk_lt hbx2) hob2, Nat.le_trans hbs2 (UE2).size⟩
  clear GR2 HRU hogg UE2
  intro W3 ⟨o3, va3, vp3, lv3, hV3, hU3, hbx3, hob3, hbs3⟩
  have x11 : W3.cell? ⟨w.heap.size, 11, none⟩ = some (.slice A11 o.f6.length c11) := blk_at hbx3 11 rfl
  have HC44 := Lib.hid (copyRecords44 o.f6 A11 c11 W3 (A11'.out _ _ (HUA.out.trans hU3)) L11.out HU'.out.2.2)
  go_upto_region 8 with (first
          | (go_at_call 44; refine HC44.out.mono ?_; rintro e w2 ⟨u, rfl, hu2, hb2⟩
             obtain ⟨Bu, du, rfl⟩ := Kd.R_slice hu2.out
             have GR3 := Lib.hid (hV3.grow hbs3 hb2.out 5)
             have y4 : w2.cell? ⟨g, 4, none⟩ = some (vp3) := blk_at GR3.out.1.hb 4 rfl
             have z4 : w2.frozen? ⟨g, 4, none⟩ = false := blk_frozen GR3.out.1.hb 4
             have HRU := Lib.hid (R_tagged (own := o3) (t := 5) hu2.out hbs3)
             clear hu2 hb2))
  clear x11 y4 z4 HC44
  have hogg : tagged o3 W3.heap.size w2.heap.size 5 g ≠ 0 := by have := GR3.out.1.og; omega
  have UE3 : Upd o3 W3 _ _ := GR3.out.2.trans ((Upd.refl _ w2).set (p := ⟨g, 4, none⟩) hogg (.slice Bu o.f6.length du))
  refine wp_gen (fun W => VSt (w.alloc (.cells #[.int .i64 o.f0, .int .i64 o.f1, .int .i64 p, .int .i64 o.f3, .string o.f4.f0, .int .i64 o.f4.f1.f0, .int .i64 o.f4.f1.f1, .string o.f4.f1.f2, .slice A8 o.f4.f1.f3.length c8, .slice A9 o.f4.f2.length c9, .slice A10 o.f5.length c10, .slice A11 o.f6.length c11, .int .i64 o.f7.f0, .slice A13 o.f7.f1.length c13] 47)) W base own g ((v.cop.stt o.f7).pnd o.f6) w.heap.size (.cells #[.int .i64 o.f0, .int .i64 o.f1, .int .i64 p, .int .i64 o.f3, .string o.f4.f0, .int .i64 o.f4.f1.f0, .int .i64 o.f4.f1.f1, .string o.f4.f1.f2, .slice A8 o.f4.f1.f3.length c8, .slice A9 o.f4.f2.length c9, .slice A10 o.f5.length c10, .slice A11 o.f6.length c11, .int .i64 o.f7.f0, .slice A13 o.f7.f1.length c13] 47 (0, 0))) ?_ ?_
  · exact ⟨_, _, _, _, GR3.out.1.setPnd HRU.out, hU3.trans UE3, (UE3.block _ (blk_lt hbx3) hob3).trans hbx3, (UE3).same _ (blk_lt hbx3) hob3, Nat.le_trans hbs3 (UE3).size⟩
  clear GR3 HRU hogg UE3
  intro W4 ⟨o4, va4, vp4, lv4, hV4, hU4, hbx4, hob4, hbs4⟩
  refine start_ (n := 7) (S := (fun w' => w'.cell? ⟨w.heap.size, 2, none⟩ = some (.int .i64 p))) (ds := [6]) #[false, false, false, false, false, false, false] (by kernel_rfl) rfl rfl (show W4.drew.cell? _ = _ from blk_at hbx4 2 rfl) (fun hHeld => ?_)
  refine pure_ (i := 0) (N := some 61) (v := ?_) (a' := ?_) #[true, false, false, false, false, false, false] rfl rfl (by kernel_rfl) (fun _ _ _ h => h) (Or.inl ⟨by rfl, ?_⟩) ?_ ?_
  rotate_left
  · intro w'
    go_simp
    with_reducible rfl
  rotate_left
  · simp only [Act.put, List.setIfInBounds_toArray, List.set_cons_zero, List.set_cons_succ]
    rfl
  refine pure_ (i := 1) (N := some 62) (v := ?_) (a' := ?_) #[true, true, false, false, false, false, false] rfl rfl (by kernel_rfl) (fun _ _ _ h => h) (Or.inl ⟨by rfl, ?_⟩) ?_ ?_
  rotate_left
  · intro w'
    go_simp
    with_reducible rfl
  rotate_left
  · simp only [Act.put, List.setIfInBounds_toArray, List.set_cons_zero, List.set_cons_succ]
    rfl
  refine take_ (i := 2) (N := some 63) (v := ?_) (a' := ?_) #[true, true, true, false, false, false, false] rfl rfl (by kernel_rfl) (fun _ _ _ h => h) (Or.inl ⟨by rfl, ?_⟩) hHeld ?_ ?_
  rotate_left
  · intro w' s0
    go_simp
    with_reducible rfl
  rotate_left
  · simp only [Act.put, List.setIfInBounds_toArray, List.set_cons_zero, List.set_cons_succ]
    rfl
  refine pure_ (i := 3) (N := some 64) (v := ?_) (a' := ?_) #[true, true, true, true, false, false, false] rfl rfl (by kernel_rfl) (fun _ _ _ h => h) (Or.inl ⟨by rfl, ?_⟩) ?_ ?_
  rotate_left
  · intro w'
    go_simp
    with_reducible rfl
  rotate_left
  · simp only [Act.put, List.setIfInBounds_toArray, List.set_cons_zero, List.set_cons_succ]
    rfl
  refine pure_ (i := 4) (N := some 65) (v := ?_) (a' := ?_) #[true, true, true, true, true, false, false] rfl rfl (by kernel_rfl) (fun _ _ _ h => h) (Or.inl ⟨by rfl, ?_⟩) ?_ ?_
  rotate_left
  · intro w'
    go_simp
    with_reducible rfl
  rotate_left
  · simp only [Act.put, List.setIfInBounds_toArray, List.set_cons_zero, List.set_cons_succ]
    rfl
  refine pure_ (i := 5) (N := some 66) (v := ?_) (a' := ?_) #[true, true, true, true, true, true, false] rfl rfl (by kernel_rfl) (fun _ _ _ h => h) (Or.inl ⟨by rfl, ?_⟩) ?_ ?_
  rotate_left
  · intro w'
    go_simp
    with_reducible rfl
  rotate_left
  · simp only [Act.put, List.setIfInBounds_toArray, List.set_cons_zero, List.set_cons_succ]
    rfl
  refine last_ (i := 6) (N := none) #[true, true, true, true, true, true, true] rfl rfl (by kernel_rfl) (by decide) (fun K hK => ?_)
  have hs := (show VwAt W4.drew base o4 g ((v.cop.stt o.f7).pnd o.f6) va4 vp4 lv4 from hV4.below (Below.refl _ _).drew).shutc p hp4
  have hf : W4.drew.frozen? ⟨g, 5 + p, none⟩ = false := blk_frozen (hV4.below (Below.refl _ _).drew).hb (5 + p)
  refine skip_ (w1 := ?_) (by rfl) rfl ?_ ?_
  rotate_left
  · go_simp
    rfl
  refine hK.out _ _ ?_
  clear hK K hs hf
  refine done_ (by kernel_rfl) ?_
  clear hHeld
  have hog4 : o4 g ≠ 0 := by have := hV4.og; omega
  have HVd := Lib.hid ((hV4.below (Below.refl _ _).drew).setShut p hp4)
  have UD4 : Hid (Upd o4 W4 o4 _) := (Upd.of_below (Below.refl _ _).drew (fun _ _ => rfl)).set (p := ⟨g, 5 + p, none⟩) hog4 (.bool true)
  go_upto_region 9 with (fail)
  refine wp_gen (fun W => VSt (w.alloc (.cells #[.int .i64 o.f0, .int .i64 o.f1, .int .i64 p, .int .i64 o.f3, .string o.f4.f0, .int .i64 o.f4.f1.f0, .int .i64 o.f4.f1.f1, .string o.f4.f1.f2, .slice A8 o.f4.f1.f3.length c8, .slice A9 o.f4.f2.length c9, .slice A10 o.f5.length c10, .slice A11 o.f6.length c11, .int .i64 o.f7.f0, .slice A13 o.f7.f1.length c13] 47)) W base own g (((v.cop.stt o.f7).pnd o.f6).close p) w.heap.size (.cells #[.int .i64 o.f0, .int .i64 o.f1, .int .i64 p, .int .i64 o.f3, .string o.f4.f0, .int .i64 o.f4.f1.f0, .int .i64 o.f4.f1.f1, .string o.f4.f1.f2, .slice A8 o.f4.f1.f3.length c8, .slice A9 o.f4.f2.length c9, .slice A10 o.f5.length c10, .slice A11 o.f6.length c11, .int .i64 o.f7.f0, .slice A13 o.f7.f1.length c13] 47 (0, 0))) ?_ ?_
  · exact ⟨_, _, _, _, HVd.out, hU4.trans UD4.out, (UD4.out.block _ (blk_lt hbx4) hob4).trans hbx4, (UD4.out).same _ (blk_lt hbx4) hob4, Nat.le_trans hbs4 (UD4.out).size⟩
  clear HVd UD4
  intro W5 ⟨o5, va5, vp5, lv5, hV5, hU5, hbx5, hob5, hbs5⟩
  obtain ⟨vl, hvl⟩ : ∃ vl, lv5 p = vl := ⟨_, rfl⟩
  obtain ⟨xl, hxl⟩ : ∃ xl, (((v.cop.stt o.f7).pnd o.f6).close p).logs.getD p [] = xl := ⟨_, rfl⟩
  have HLV := Lib.hid hvl
  have HXL := Lib.hid hxl
  have HVl : Hid (W5.cell? ⟨g, 9 + p, none⟩ = some vl) := by rw [← hvl]; exact Lib.hid (hV5.logc p hp4)
  have HRp : Hid (Kd.R k45 45 W5 base (fun k => o5 k = 6 + p) vl xl) := by rw [← hvl, ← hxl]; exact Lib.hid (hV5.rl p hp4)
  have HLX : Hid (xl.length ≤ 1000000) := by
    rw [← hxl]
    show Hid ((v.logs.getD p []).length ≤ 1000000)
    exact Lib.hid (HLG.out p)
  have HLY : Hid (o.f5.length ≤ 1000000) := by have := partsRs_len o.f5; have := HU'.out.2.1; exact Lib.hid (by omega)
  have HX44 : Hid (∀ W, Below W5.heap.size W5 W → Calls Try.prog 44 #[.slice A10 o.f5.length c10] W fun e w' => ∃ v, e = .returned v ∧ Hid (Kd.R k45 45 w' W.heap.size (fun _ => True) v o.f5) ∧ Hid (Below W.heap.size W w')) := fun W hW => copyRecords44 o.f5 A10 c10 W (A10'.out _ _ ((HUA.out.trans hU5).trans (Upd.of_below hW (fun _ _ => rfl)))) L10.out HU'.out.2.1
  clear hvl hxl
  go_wp2
  refine start_ (n := 18) (S := (fun w' => w'.cell? ⟨g, 9 + p, none⟩ = some vl ∧ w'.cell? ⟨w.heap.size, 2, none⟩ = some (.int .i64 p) ∧ w'.cell? ⟨w.heap.size, 10, none⟩ = some (.slice A10 o.f5.length c10))) (ds := [17]) #[false, false, false, false, false, false, false, false, false, false, false, false, false, false, false, false, false, false] (by kernel_rfl) rfl rfl ⟨(show W5.drew.cell? _ = _ from HVl.out), (show W5.drew.cell? _ = _ from blk_at hbx5 2 rfl), (show W5.drew.cell? _ = _ from blk_at hbx5 10 rfl)⟩ (fun hHeld => ?_)
  have HBo : Hid (Below W5.heap.size W5 W5.drew) := (Below.refl _ _).drew
  generalize W5.drew = W at hHeld HBo ⊢
  refine pure_ (i := 0) (N := some 69) (v := ?_) (a' := ?_) #[true, false, false, false, false, false, false, false, false, false, false, false, false, false, false, false, false, false] rfl rfl (by kernel_rfl) (fun _ _ _ h => h) (Or.inl ⟨by rfl, ?_⟩) ?_ ?_
  rotate_left
  · intro w'
    go_simp
    with_reducible rfl
  rotate_left
  · simp only [Act.put, List.setIfInBounds_toArray, List.set_cons_zero, List.set_cons_succ]
    rfl
  refine pure_ (i := 1) (N := some 70) (v := ?_) (a' := ?_) #[true, true, false, false, false, false, false, false, false, false, false, false, false, false, false, false, false, false] rfl rfl (by kernel_rfl) (fun _ _ _ h => h) (Or.inl ⟨by rfl, ?_⟩) ?_ ?_
  rotate_left
  · intro w'
    go_simp
    with_reducible rfl
  rotate_left
  · simp only [Act.put, List.setIfInBounds_toArray, List.set_cons_zero, List.set_cons_succ]
    rfl
  refine take_ (i := 2) (N := some 71) (v := ?_) (a' := ?_) #[true, true, true, false, false, false, false, false, false, false, false, false, false, false, false, false, false, false] rfl rfl (by kernel_rfl) (fun _ _ _ h => h) (Or.inl ⟨by rfl, ?_⟩) hHeld ?_ ?_
  rotate_left
  · rintro w' ⟨s0, s1, s2⟩
    go_simp
    with_reducible rfl
  rotate_left
  · simp only [Act.put, List.setIfInBounds_toArray, List.set_cons_zero, List.set_cons_succ]
    rfl
  refine pure_ (i := 3) (N := some 72) (v := ?_) (a' := ?_) #[true, true, true, true, false, false, false, false, false, false, false, false, false, false, false, false, false, false] rfl rfl (by kernel_rfl) (fun _ _ _ h => h) (Or.inl ⟨by rfl, ?_⟩) ?_ ?_
  rotate_left
  · intro w'
    go_simp
    with_reducible rfl
  rotate_left
  · simp only [Act.put, List.setIfInBounds_toArray, List.set_cons_zero, List.set_cons_succ]
    rfl
  refine pure_ (i := 4) (N := some 73) (v := ?_) (a' := ?_) #[true, true, true, true, true, false, false, false, false, false, false, false, false, false, false, false, false, false] rfl rfl (by kernel_rfl) (fun _ _ _ h => h) (Or.inl ⟨by rfl, ?_⟩) ?_ ?_
  rotate_left
  · intro w'
    go_simp
    with_reducible rfl
  rotate_left
  · simp only [Act.put, List.setIfInBounds_toArray, List.set_cons_zero, List.set_cons_succ]
    rfl
  refine take_ (i := 5) (N := some 74) (v := ?_) (a' := ?_) #[true, true, true, true, true, true, false, false, false, false, false, false, false, false, false, false, false, false] rfl rfl (by kernel_rfl) (fun _ _ _ h => h) (Or.inl ⟨by rfl, ?_⟩) hHeld ?_ ?_
  rotate_left
  · rintro w' ⟨s0, s1, s2⟩
    go_simp
    with_reducible rfl
  rotate_left
  · simp only [Act.put, List.setIfInBounds_toArray, List.set_cons_zero, List.set_cons_succ]
    rfl
  refine pure_ (i := 6) (N := some 75) (v := ?_) (a' := ?_) #[true, true, true, true, true, true, true, false, false, false, false, false, false, false, false, false, false, false] rfl rfl (by kernel_rfl) (fun _ _ _ h => h) (Or.inl ⟨by rfl, ?_⟩) ?_ ?_
  rotate_left
  · intro w'
    go_simp
    with_reducible rfl
  rotate_left
  · simp only [Act.put, List.setIfInBounds_toArray, List.set_cons_zero, List.set_cons_succ]
    rfl
  refine pure_ (i := 7) (N := some 76) (v := ?_) (a' := ?_) #[true, true, true, true, true, true, true, true, false, false, false, false, false, false, false, false, false, false] rfl rfl (by kernel_rfl) (fun _ _ _ h => h) (Or.inl ⟨by rfl, ?_⟩) ?_ ?_
  rotate_left
  · intro w'
    go_simp
    with_reducible rfl
  rotate_left
  · simp only [Act.put, List.setIfInBounds_toArray, List.set_cons_zero, List.set_cons_succ]
    rfl
  refine pure_ (i := 8) (N := some 77) (v := ?_) (a' := ?_) #[true, true, true, true, true, true, true, true, true, false, false, false, false, false, false, false, false, false] rfl rfl (by kernel_rfl) (fun _ _ _ h => h) (Or.inl ⟨by rfl, ?_⟩) ?_ ?_
  rotate_left
  · intro w'
    go_simp
    with_reducible rfl
  rotate_left
  · simp only [Act.put, List.setIfInBounds_toArray, List.set_cons_zero, List.set_cons_succ]
    rfl
  refine take_ (i := 9) (N := some 78) (v := ?_) (a' := ?_) #[true, true, true, true, true, true, true, true, true, true, false, false, false, false, false, false, false, false] rfl rfl (by kernel_rfl) (fun _ _ _ h => h) (Or.inl ⟨by rfl, ?_⟩) hHeld ?_ ?_
  rotate_left
  · rintro w' ⟨s0, s1, s2⟩
    go_simp
    with_reducible rfl
  rotate_left
  · simp only [Act.put, List.setIfInBounds_toArray, List.set_cons_zero, List.set_cons_succ]
    rfl
  refine pure_ (i := 10) (N := some 79) (v := ?_) (a' := ?_) #[true, true, true, true, true, true, true, true, true, true, true, false, false, false, false, false, false, false] rfl rfl (by kernel_rfl) (fun _ _ _ h => h) (Or.inl ⟨by rfl, ?_⟩) ?_ ?_
  rotate_left
  · intro w'
    go_simp
    with_reducible rfl
  rotate_left
  · simp only [Act.put, List.setIfInBounds_toArray, List.set_cons_zero, List.set_cons_succ]
    rfl
  refine take_ (i := 11) (N := some 80) (v := ?_) (a' := ?_) #[true, true, true, true, true, true, true, true, true, true, true, true, false, false, false, false, false, false] rfl rfl (by kernel_rfl) (fun _ _ _ h => h) (Or.inl ⟨by rfl, ?_⟩) hHeld ?_ ?_
  rotate_left
  · rintro w' ⟨s0, s1, s2⟩
    go_simp
    with_reducible rfl
  rotate_left
  · simp only [Act.put, List.setIfInBounds_toArray, List.set_cons_zero, List.set_cons_succ]
    rfl
  refine pure_ (i := 14) (N := some 83) (v := ?_) (a' := ?_) #[true, true, true, true, true, true, true, true, true, true, true, true, false, false, true, false, false, false] rfl rfl (by kernel_rfl) (fun _ _ _ h => h) (Or.inl ⟨by rfl, ?_⟩) ?_ ?_
  rotate_left
  · intro w'
    go_simp
    with_reducible rfl
  rotate_left
  · simp only [Act.put, List.setIfInBounds_toArray, List.set_cons_zero, List.set_cons_succ]
    rfl
  refine pure_ (i := 15) (N := some 84) (v := ?_) (a' := ?_) #[true, true, true, true, true, true, true, true, true, true, true, true, false, false, true, true, false, false] rfl rfl (by kernel_rfl) (fun _ _ _ h => h) (Or.inl ⟨by rfl, ?_⟩) ?_ ?_
  rotate_left
  · intro w'
    go_simp
    with_reducible rfl
  rotate_left
  · simp only [Act.put, List.setIfInBounds_toArray, List.set_cons_zero, List.set_cons_succ]
    rfl
  refine one_ (i := 12) (N := some 81) #[true, true, true, true, true, true, true, true, true, true, true, true, true, false, true, true, false, false] rfl rfl (by kernel_rfl) (by decide) (fun K hK => ?_)
  refine goes_ Try.func44 (by kernel_rfl) rfl #[.slice A10 o.f5.length c10] (by rfl) rfl rfl (by simp only [List.map_toArray, List.map_cons, List.map_nil]; rfl) ?_
  refine (HX44.out W HBo.out).mono ?_
  rintro e w3 ⟨u, rfl, hu, hb3⟩
  refine ⟨_, rfl, ?_⟩
  obtain ⟨Au, cu, rfl⟩ := Kd.R_slice hu.out
  refine hK.out _ _ ⟨pw_cell_below hb3.out hHeld.1, pw_cell_below hb3.out hHeld.2.1, pw_cell_below hb3.out hHeld.2.2⟩ (fun hHeld => ?_)
  clear hK K
  refine norm_ (a' := ?_) ?_ ?_
  rotate_left
  · show Act.put _ (some 81) _ = _
    simp only [Act.put, List.setIfInBounds_toArray, List.set_cons_zero, List.set_cons_succ]
    rfl
  refine one_ (i := 13) (N := some 82) #[true, true, true, true, true, true, true, true, true, true, true, true, true, true, true, true, false, false] rfl rfl (by kernel_rfl) (by decide) (fun K hK => ?_)
  refine Kd.R_append_rows_step k45 (Rr := k45.M w3 base (fun k => W.heap.size ≤ k)) (w0 := w3) base (by rfl) (.tmp 78) (.tmp 81) 35 45 (.agg #[.string ⟨#[]⟩, .int .i64 0, .int .i64 0, .string ⟨#[]⟩, .slice none 0 0, .slice none 0 0]) 96 rfl Try.underlying35 info45 rfl (by decide) (by decide) vl xl o.f5 Au o.f5.length cu (fun k => o5 k = 6 + p ∨ W5.heap.size ≤ k) (fun k => W.heap.size ≤ k) rfl rfl ?hO ?hR (fun _ _ hp => hp) ?hok ?hfr (Below.refl _ _) ?hS ?hl ?_
  case hO => exact Kd.R_below (Kd.R_below (Kd.R_mono HRp.out (fun _ hk => .inl hk)) HBo.out) hb3.out
  case hR => exact R_readsM hu.out (Nat.le_trans hbs5 HBo.out.size)
  case hok => exact fun k hk => ⟨.inr (Nat.le_trans HBo.out.size hk), fun he => by have := Kd.R_lt HRp.out k he.symm; have := HBo.out.size; omega⟩
  case hfr => exact fun k hk => .inr (Nat.le_trans HBo.out.size (Nat.le_trans hb3.out.size hk))
  case hS => exact Nat.le_trans hbs5 (Nat.le_trans HBo.out.size hb3.out.size)
  case hl => have := HLX.out; have := HLY.out; omega
  intro v1 w4 hO4 hB4 hg4 hat4
  have HA := Lib.hid (hV5.setLog hbs5 p hp4 (HBo.out.trans (hb3.out.mono HBo.out.size)) (by rw [HLV.out]; exact hg4) (by rw [HXL.out]; exact hO4))
  obtain ⟨A1, m1, c1, rfl⟩ := R_sliced hO4
  have hlv4 : w4.cell? ⟨g, 9 + p, none⟩ = some vl := by
    rw [← HLV.out]
    refine blk_at HA.out.1 (9 + p) ?_
    match p, hp4 with
    | 0, _ => rfl
    | 1, _ => rfl
    | 2, _ => rfl
    | 3, _ => rfl
  have hf4 : w4.frozen? ⟨g, 9 + p, none⟩ = false := blk_frozen HA.out.1 (9 + p)
  have hbx4 : w4.heap[w.heap.size]? = some (.cells #[.int .i64 o.f0, .int .i64 o.f1, .int .i64 p, .int .i64 o.f3, .string o.f4.f0, .int .i64 o.f4.f1.f0, .int .i64 o.f4.f1.f1, .string o.f4.f1.f2, .slice A8 o.f4.f1.f3.length c8, .slice A9 o.f4.f2.length c9, .slice A10 o.f5.length c10, .slice A11 o.f6.length c11, .int .i64 o.f7.f0, .slice A13 o.f7.f1.length c13] 47 (0, 0)) := (hg4.block _ (Nat.lt_of_lt_of_le (blk_lt hbx5) (Nat.le_trans HBo.out.size hb3.out.size)) (fun e => by
    have h1 := HRp.out
    have h2 := h1.1 _ e.symm
    have h3 : o5 w.heap.size = 6 + p := h2
    have h4 : o5 w.heap.size = 0 := hob5
    omega)).trans ((hb3.out.block _ (Nat.lt_of_lt_of_le (blk_lt hbx5) HBo.out.size)).trans ((HBo.out.block _ (blk_lt hbx5)).trans hbx5))
  clear hO4 hB4 hg4 hat4
  refine hK.out _ _ ⟨hlv4, blk_at hbx4 2 rfl, blk_at hbx4 10 rfl⟩ (fun hHeld => ?_)
  clear hK K hbx4
  refine norm_ (a' := ?_) ?_ ?_
  rotate_left
  · show Act.put _ (some 82) _ = _
    simp only [Act.put, List.setIfInBounds_toArray, List.set_cons_zero, List.set_cons_succ]
    rfl
  refine pure_ (i := 16) (N := some 85) (v := ?_) (a' := ?_) #[true, true, true, true, true, true, true, true, true, true, true, true, true, true, true, true, true, false] rfl rfl (by kernel_rfl) (fun _ _ _ h => h) (Or.inl ⟨by rfl, ?_⟩) ?_ ?_
  rotate_left
  · intro w'
    go_simp
    with_reducible rfl
  rotate_left
  · simp only [Act.put, List.setIfInBounds_toArray, List.set_cons_zero, List.set_cons_succ]
    rfl
  refine last_ (i := 17) (N := none) #[true, true, true, true, true, true, true, true, true, true, true, true, true, true, true, true, true, true] rfl rfl (by kernel_rfl) (by decide) (fun K hK => ?_)
  refine skip_ (w1 := ?_) (by rfl) rfl ?_ ?_
  rotate_left
  · go_simp
    rfl
  refine hK.out _ _ ?_
  clear hK K hlv4 hf4
  refine done_ (by kernel_rfl) ?_
  clear hHeld
  go_wp2
  go_end0
  exact ⟨rfl, _, ⟨_, _, _, HA.out.2.1⟩, HUA.out.trans (hU5.trans HA.out.2.2)⟩
set_option maxRecDepth 100000 in
set_option maxHeartbeats 4000000 in
theorem sees21_same_true_no (h : VwAt w base own g v va vp lv) (hbase : base ≤ w.heap.size) (o : S47) (A8 : Option Addr) (c8 : Nat) (A9 : Option Addr) (c9 : Nat) (A10 : Option Addr) (c10 : Nat) (A11 : Option Addr) (c11 : Nat) (A13 : Option Addr) (c13 : Nat) (p : Nat) (hp4 : p < 4) (mode : Int) (a10 : Away k45 own w A10 o.f5) (l10 : o.f5.length ≤ c10) (a11 : Away k45 own w A11 o.f6) (l11 : o.f6.length ≤ c11) (a13 : Away k104 own w A13 o.f7.f1) (l13 : o.f7.f1.length ≤ c13) (hu : partsC o.f7.f1 ≤ 100000 ∧ partsRs o.f5 ≤ 100000 ∧ partsRs o.f6 ≤ 100000) (hlg : ∀ i, (v.logs.getD i []).length ≤ 1000000) (d1 : decide (o.f3 < v.id) = false) (d2 : (o.f3 == v.id) = true) (d4 : v.shut p = false) (d3 : decide (v.id < o.f3) = false) (d5 : (mode == 3) = false) : Calls Try.prog 21 #[.pointer (some ⟨g, 0, none⟩), .agg #[.int .i64 o.f0, .int .i64 o.f1, .int .i64 p, .int .i64 o.f3, .string o.f4.f0, .int .i64 o.f4.f1.f0, .int .i64 o.f4.f1.f1, .string o.f4.f1.f2, .slice A8 o.f4.f1.f3.length c8, .slice A9 o.f4.f2.length c9, .slice A10 o.f5.length c10, .slice A11 o.f6.length c11, .int .i64 o.f7.f0, .slice A13 o.f7.f1.length c13], .bool true, .int .i64 mode] w fun e w' => e = .returned (.tuple #[]) ∧ VwPost base own g (((v.cop.stt o.f7).pnd o.f6).close p) w w' := by
  have HV0 : Hid (VwAt (w.alloc (.cells #[.int .i64 o.f0, .int .i64 o.f1, .int .i64 p, .int .i64 o.f3, .string o.f4.f0, .int .i64 o.f4.f1.f0, .int .i64 o.f4.f1.f1, .string o.f4.f1.f2, .slice A8 o.f4.f1.f3.length c8, .slice A9 o.f4.f2.length c9, .slice A10 o.f5.length c10, .slice A11 o.f6.length c11, .int .i64 o.f7.f0, .slice A13 o.f7.f1.length c13] 47)) base own g v va vp lv) := h.below ((Below.refl _ _).alloc (Nat.le_refl _) _)
  have HUA : Hid (Upd own w own (w.alloc (.cells #[.int .i64 o.f0, .int .i64 o.f1, .int .i64 p, .int .i64 o.f3, .string o.f4.f0, .int .i64 o.f4.f1.f0, .int .i64 o.f4.f1.f1, .string o.f4.f1.f2, .slice A8 o.f4.f1.f3.length c8, .slice A9 o.f4.f2.length c9, .slice A10 o.f5.length c10, .slice A11 o.f6.length c11, .int .i64 o.f7.f0, .slice A13 o.f7.f1.length c13] 47))) := Upd.of_below ((Below.refl _ _).alloc (Nat.le_refl _) _) (fun _ _ => rfl)
  have HX0 : Hid (((w.alloc (.cells #[.int .i64 o.f0, .int .i64 o.f1, .int .i64 p, .int .i64 o.f3, .string o.f4.f0, .int .i64 o.f4.f1.f0, .int .i64 o.f4.f1.f1, .string o.f4.f1.f2, .slice A8 o.f4.f1.f3.length c8, .slice A9 o.f4.f2.length c9, .slice A10 o.f5.length c10, .slice A11 o.f6.length c11, .int .i64 o.f7.f0, .slice A13 o.f7.f1.length c13] 47))).heap[w.heap.size]? = some (.cells #[.int .i64 o.f0, .int .i64 o.f1, .int .i64 p, .int .i64 o.f3, .string o.f4.f0, .int .i64 o.f4.f1.f0, .int .i64 o.f4.f1.f1, .string o.f4.f1.f2, .slice A8 o.f4.f1.f3.length c8, .slice A9 o.f4.f2.length c9, .slice A10 o.f5.length c10, .slice A11 o.f6.length c11, .int .i64 o.f7.f0, .slice A13 o.f7.f1.length c13] 47 (0, 0))) := blk_new w _
  have HFR : Hid (own w.heap.size = 0) := h.free (Nat.le_refl _)
  have Hbase := Lib.hid hbase
  have hgl : g < w.heap.size := h.glt
  have c0 : w.cell? ⟨g, 0, none⟩ = some (.int .i64 v.id) := blk_at h.hb 0 rfl
  have cp := h.shutc p hp4
  have i1 : (0 : Int) ≤ (p : Int) := by omega
  have i2 : (p : Int) < 4 := by omega
  have A10' := Lib.hid a10
  have A11' := Lib.hid a11
  have A13' := Lib.hid a13
  have L10 := Lib.hid l10
  have L11 := Lib.hid l11
  have L13 := Lib.hid l13
  have HU' := Lib.hid hu
  have HLG := Lib.hid hlg
  rw [d4] at cp
  clear d4
  clear h hbase a10 l10 a11 l11 a13 l13 hu hlg
  go_enter Try.func21, Try.ntmps21
  go_wp2
  go_quiet (fail)
  go_wp2
  go_quiet (fail)
  go_upto_region 4 with (fail)
  clear c0 cp d1 d2 d3
  refine wp_gen (fun W => VSt (w.alloc (.cells #[.int .i64 o.f0, .int .i64 o.f1, .int .i64 p, .int .i64 o.f3, .string o.f4.f0, .int .i64 o.f4.f1.f0, .int .i64 o.f4.f1.f1, .string o.f4.f1.f2, .slice A8 o.f4.f1.f3.length c8, .slice A9 o.f4.f2.length c9, .slice A10 o.f5.length c10, .slice A11 o.f6.length c11, .int .i64 o.f7.f0, .slice A13 o.f7.f1.length c13] 47)) W base own g v w.heap.size (.cells #[.int .i64 o.f0, .int .i64 o.f1, .int .i64 p, .int .i64 o.f3, .string o.f4.f0, .int .i64 o.f4.f1.f0, .int .i64 o.f4.f1.f1, .string o.f4.f1.f2, .slice A8 o.f4.f1.f3.length c8, .slice A9 o.f4.f2.length c9, .slice A10 o.f5.length c10, .slice A11 o.f6.length c11, .int .i64 o.f7.f0, .slice A13 o.f7.f1.length c13] 47 (0, 0))) ?_ ?_
  · exact ⟨own, va, vp, lv, HV0.out.below (pw_below_drewN (pw_below_drewN (Below.refl _ _) _) _), Upd.of_below (pw_below_drewN (pw_below_drewN (Below.refl _ _) _) _) (fun _ _ => rfl), HX0.out, HFR.out, Nat.le_trans Hbase.out (by simp)⟩
  intro W1 ⟨o1, va1, vp1, lv1, hV1, hU1, hbx1, hob1, hbs1⟩
  have y1 : W1.cell? ⟨g, 1, none⟩ = some (.bool v.copied) := blk_at hV1.hb 1 rfl
  have z1 : W1.frozen? ⟨g, 1, none⟩ = false := blk_frozen hV1.hb 1
  have hog1 : o1 g ≠ 0 := by have := hV1.og; omega
  have UD1 := Lib.hid ((Upd.refl o1 W1).set (p := ⟨g, 1, none⟩) hog1 (.bool true))
  go_upto_region 6 with (fail)
  clear y1 z1
  refine wp_gen (fun W => VSt (w.alloc (.cells #[.int .i64 o.f0, .int .i64 o.f1, .int .i64 p, .int .i64 o.f3, .string o.f4.f0, .int .i64 o.f4.f1.f0, .int .i64 o.f4.f1.f1, .string o.f4.f1.f2, .slice A8 o.f4.f1.f3.length c8, .slice A9 o.f4.f2.length c9, .slice A10 o.f5.length c10, .slice A11 o.f6.length c11, .int .i64 o.f7.f0, .slice A13 o.f7.f1.length c13] 47)) W base own g v.cop w.heap.size (.cells #[.int .i64 o.f0, .int .i64 o.f1, .int .i64 p, .int .i64 o.f3, .string o.f4.f0, .int .i64 o.f4.f1.f0, .int .i64 o.f4.f1.f1, .string o.f4.f1.f2, .slice A8 o.f4.f1.f3.length c8, .slice A9 o.f4.f2.length c9, .slice A10 o.f5.length c10, .slice A11 o.f6.length c11, .int .i64 o.f7.f0, .slice A13 o.f7.f1.length c13] 47 (0, 0))) ?_ ?_
  · exact ⟨_, _, _, _, hV1.setCop, hU1.trans UD1.out, (UD1.out.block _ (blk_lt hbx1) hob1).trans hbx1, (UD1.out).same _ (blk_lt hbx1) hob1, Nat.le_trans hbs1 (UD1.out).size⟩
  intro W2 ⟨o2, va2, vp2, lv2, hV2, hU2, hbx2, hob2, hbs2⟩
  have x12 : W2.cell? ⟨w.heap.size, 12, none⟩ = some (.int .i64 o.f7.f0) := blk_at hbx2 12 rfl
  have x13 : W2.cell? ⟨w.heap.size, 13, none⟩ = some (.slice A13 o.f7.f1.length c13) := blk_at hbx2 13 rfl
  have HC43 := Lib.hid (copyState43 o.f7 A13 c13 W2 (A13'.out _ _ (HUA.out.trans hU2)) L13.out HU'.out.1)
  go_upto_region 7 with (first
          | (go_at_call 43; refine HC43.out.mono ?_; rintro e w2 ⟨u, rfl, hu2, hb2⟩
             obtain ⟨Bu, du, rfl⟩ := Kd.R_slice hu2.out
             have GR2 := Lib.hid (hV2.grow hbs2 hb2.out 4)
             have y2 : w2.cell? ⟨g, 2, none⟩ = some (.int .i64 v.cop.st.f0) := blk_at GR2.out.1.hb 2 rfl
             have z2 : w2.frozen? ⟨g, 2, none⟩ = false := blk_frozen GR2.out.1.hb 2
             have y3 : w2.cell? ⟨g, 3, none⟩ = some (va2) := blk_at GR2.out.1.hb 3 rfl
             have z3 : w2.frozen? ⟨g, 3, none⟩ = false := blk_frozen GR2.out.1.hb 3
             have HRU := Lib.hid (R_tagged (own := o2) (t := 4) hu2.out hbs2)
             clear hu2 hb2))
  clear x12 x13 y2 z2 y3 z3 HC43
  have hogg : tagged o2 W2.heap.size w2.heap.size 4 g ≠ 0 := by have := GR2.out.1.og; omega
  have UE2 : Upd o2 W2 _ _ := GR2.out.2.trans (((Upd.refl _ w2).set (p := ⟨g, 2, none⟩) hogg (.int .i64 o.f7.f0)).set (p := ⟨g, 3, none⟩) hogg (.slice Bu o.f7.f1.length du))
  refine wp_gen (fun W => VSt (w.alloc (.cells #[.int .i64 o.f0, .int .i64 o.f1, .int .i64 p, .int .i64 o.f3, .string o.f4.f0, .int .i64 o.f4.f1.f0, .int .i64 o.f4.f1.f1, .string o.f4.f1.f2, .slice A8 o.f4.f1.f3.length c8, .slice A9 o.f4.f2.length c9, .slice A10 o.f5.length c10, .slice A11 o.f6.length c11, .int .i64 o.f7.f0, .slice A13 o.f7.f1.length c13] 47)) W base own g (v.cop.stt o.f7) w.heap.size (.cells #[.int .i64 o.f0, .int .i64 o.f1, .int .i64 p, .int .i64 o.f3, .string o.f4.f0, .int .i64 o.f4.f1.f0, .int .i64 o.f4.f1.f1, .string o.f4.f1.f2, .slice A8 o.f4.f1.f3.length c8, .slice A9 o.f4.f2.length c9, .slice A10 o.f5.length c10, .slice A11 o.f6.length c11, .int .i64 o.f7.f0, .slice A13 o.f7.f1.length c13] 47 (0, 0))) ?_ ?_
  · exact ⟨_, _, _, _, GR2.out.1.setSt HRU.out, hU2.trans UE2, (UE2.block _ (blk_lt hbx2) hob2).trans hbx2, (UE2).same _ (blk_lt hbx2) hob2, Nat.le_trans hbs2 (UE2).size⟩
  clear GR2 HRU hogg UE2
  intro W3 ⟨o3, va3, vp3, lv3, hV3, hU3, hbx3, hob3, hbs3⟩
  have x11 : W3.cell? ⟨w.heap.size, 11, none⟩ = some (.slice A11 o.f6.length c11) := blk_at hbx3 11 rfl
  have HC44 := Lib.hid (copyRecords44 o.f6 A11 c11 W3 (A11'.out _ _ (HUA.out.trans hU3)) L11.out HU'.out.2.2)
  go_upto_region 8 with (first
          | (go_at_call 44; refine HC44.out.mono ?_; rintro e w2 ⟨u, rfl, hu2, hb2⟩
             obtain ⟨Bu, du, rfl⟩ := Kd.R_slice hu2.out
             have GR3 := Lib.hid (hV3.grow hbs3 hb2.out 5)
             have y4 : w2.cell? ⟨g, 4, none⟩ = some (vp3) := blk_at GR3.out.1.hb 4 rfl
             have z4 : w2.frozen? ⟨g, 4, none⟩ = false := blk_frozen GR3.out.1.hb 4
             have HRU := Lib.hid (R_tagged (own := o3) (t := 5) hu2.out hbs3)
             clear hu2 hb2))
  clear x11 y4 z4 HC44
  have hogg : tagged o3 W3.heap.size w2.heap.size 5 g ≠ 0 := by have := GR3.out.1.og; omega
  have UE3 : Upd o3 W3 _ _ := GR3.out.2.trans ((Upd.refl _ w2).set (p := ⟨g, 4, none⟩) hogg (.slice Bu o.f6.length du))
  refine wp_gen (fun W => VSt (w.alloc (.cells #[.int .i64 o.f0, .int .i64 o.f1, .int .i64 p, .int .i64 o.f3, .string o.f4.f0, .int .i64 o.f4.f1.f0, .int .i64 o.f4.f1.f1, .string o.f4.f1.f2, .slice A8 o.f4.f1.f3.length c8, .slice A9 o.f4.f2.length c9, .slice A10 o.f5.length c10, .slice A11 o.f6.length c11, .int .i64 o.f7.f0, .slice A13 o.f7.f1.length c13] 47)) W base own g ((v.cop.stt o.f7).pnd o.f6) w.heap.size (.cells #[.int .i64 o.f0, .int .i64 o.f1, .int .i64 p, .int .i64 o.f3, .string o.f4.f0, .int .i64 o.f4.f1.f0, .int .i64 o.f4.f1.f1, .string o.f4.f1.f2, .slice A8 o.f4.f1.f3.length c8, .slice A9 o.f4.f2.length c9, .slice A10 o.f5.length c10, .slice A11 o.f6.length c11, .int .i64 o.f7.f0, .slice A13 o.f7.f1.length c13] 47 (0, 0))) ?_ ?_
  · exact ⟨_, _, _, _, GR3.out.1.setPnd HRU.out, hU3.trans UE3, (UE3.block _ (blk_lt hbx3) hob3).trans hbx3, (UE3).same _ (blk_lt hbx3) hob3, Nat.le_trans hbs3 (UE3).size⟩
  clear GR3 HRU hogg UE3
  intro W4 ⟨o4, va4, vp4, lv4, hV4, hU4, hbx4, hob4, hbs4⟩
  refine start_ (n := 7) (S := (fun w' => w'.cell? ⟨w.heap.size, 2, none⟩ = some (.int .i64 p))) (ds := [6]) #[false, false, false, false, false, false, false] (by kernel_rfl) rfl rfl (show W4.drew.cell? _ = _ from blk_at hbx4 2 rfl) (fun hHeld => ?_)
  refine pure_ (i := 0) (N := some 61) (v := ?_) (a' := ?_) #[true, false, false, false, false, false, false] rfl rfl (by kernel_rfl) (fun _ _ _ h => h) (Or.inl ⟨by rfl, ?_⟩) ?_ ?_
  rotate_left
  · intro w'
    go_simp
    with_reducible rfl
  rotate_left
  · simp only [Act.put, List.setIfInBounds_toArray, List.set_cons_zero, List.set_cons_succ]
    rfl
  refine pure_ (i := 1) (N := some 62) (v := ?_) (a' := ?_) #[true, true, false, false, false, false, false] rfl rfl (by kernel_rfl) (fun _ _ _ h => h) (Or.inl ⟨by rfl, ?_⟩) ?_ ?_
  rotate_left
  · intro w'
    go_simp
    with_reducible rfl
  rotate_left
  · simp only [Act.put, List.setIfInBounds_toArray, List.set_cons_zero, List.set_cons_succ]
    rfl
  refine take_ (i := 2) (N := some 63) (v := ?_) (a' := ?_) #[true, true, true, false, false, false, false] rfl rfl (by kernel_rfl) (fun _ _ _ h => h) (Or.inl ⟨by rfl, ?_⟩) hHeld ?_ ?_
  rotate_left
  · intro w' s0
    go_simp
    with_reducible rfl
  rotate_left
  · simp only [Act.put, List.setIfInBounds_toArray, List.set_cons_zero, List.set_cons_succ]
    rfl
  refine pure_ (i := 3) (N := some 64) (v := ?_) (a' := ?_) #[true, true, true, true, false, false, false] rfl rfl (by kernel_rfl) (fun _ _ _ h => h) (Or.inl ⟨by rfl, ?_⟩) ?_ ?_
  rotate_left
  · intro w'
    go_simp
    with_reducible rfl
  rotate_left
  · simp only [Act.put, List.setIfInBounds_toArray, List.set_cons_zero, List.set_cons_succ]
    rfl
  refine pure_ (i := 4) (N := some 65) (v := ?_) (a' := ?_) #[true, true, true, true, true, false, false] rfl rfl (by kernel_rfl) (fun _ _ _ h => h) (Or.inl ⟨by rfl, ?_⟩) ?_ ?_
  rotate_left
  · intro w'
    go_simp
    with_reducible rfl
  rotate_left
  · simp only [Act.put, List.setIfInBounds_toArray, List.set_cons_zero, List.set_cons_succ]
    rfl
  refine pure_ (i := 5) (N := some 66) (v := ?_) (a' := ?_) #[true, true, true, true, true, true, false] rfl rfl (by kernel_rfl) (fun _ _ _ h => h) (Or.inl ⟨by rfl, ?_⟩) ?_ ?_
  rotate_left
  · intro w'
    go_simp
    with_reducible rfl
  rotate_left
  · simp only [Act.put, List.setIfInBounds_toArray, List.set_cons_zero, List.set_cons_succ]
    rfl
  refine last_ (i := 6) (N := none) #[true, true, true, true, true, true, true] rfl rfl (by kernel_rfl) (by decide) (fun K hK => ?_)
  have hs := (show VwAt W4.drew base o4 g ((v.cop.stt o.f7).pnd o.f6) va4 vp4 lv4 from hV4.below (Below.refl _ _).drew).shutc p hp4
  have hf : W4.drew.frozen? ⟨g, 5 + p, none⟩ = false := blk_frozen (hV4.below (Below.refl _ _).drew).hb (5 + p)
  refine skip_ (w1 := ?_) (by rfl) rfl ?_ ?_
  rotate_left
  · go_simp
    rfl
  refine hK.out _ _ ?_
  clear hK K hs hf
  refine done_ (by kernel_rfl) ?_
  clear hHeld
  have hog4 : o4 g ≠ 0 := by have := hV4.og; omega
  have HVd := Lib.hid ((hV4.below (Below.refl _ _).drew).setShut p hp4)
  have UD4 : Hid (Upd o4 W4 o4 _) := (Upd.of_below (Below.refl _ _).drew (fun _ _ => rfl)).set (p := ⟨g, 5 + p, none⟩) hog4 (.bool true)
  go_upto_region 9 with (fail)
  refine wp_gen (fun W => VSt (w.alloc (.cells #[.int .i64 o.f0, .int .i64 o.f1, .int .i64 p, .int .i64 o.f3, .string o.f4.f0, .int .i64 o.f4.f1.f0, .int .i64 o.f4.f1.f1, .string o.f4.f1.f2, .slice A8 o.f4.f1.f3.length c8, .slice A9 o.f4.f2.length c9, .slice A10 o.f5.length c10, .slice A11 o.f6.length c11, .int .i64 o.f7.f0, .slice A13 o.f7.f1.length c13] 47)) W base own g (((v.cop.stt o.f7).pnd o.f6).close p) w.heap.size (.cells #[.int .i64 o.f0, .int .i64 o.f1, .int .i64 p, .int .i64 o.f3, .string o.f4.f0, .int .i64 o.f4.f1.f0, .int .i64 o.f4.f1.f1, .string o.f4.f1.f2, .slice A8 o.f4.f1.f3.length c8, .slice A9 o.f4.f2.length c9, .slice A10 o.f5.length c10, .slice A11 o.f6.length c11, .int .i64 o.f7.f0, .slice A13 o.f7.f1.length c13] 47 (0, 0))) ?_ ?_
  · exact ⟨_, _, _, _, HVd.out, hU4.trans UD4.out, (UD4.out.block _ (blk_lt hbx4) hob4).trans hbx4, (UD4.out).same _ (blk_lt hbx4) hob4, Nat.le_trans hbs4 (UD4.out).size⟩
  clear HVd UD4
  intro W5 ⟨o5, va5, vp5, lv5, hV5, hU5, hbx5, hob5, hbs5⟩
  go_wp2
  go_end0
  exact ⟨rfl, _, ⟨_, _, _, hV5⟩, HUA.out.trans hU5⟩
set_option maxRecDepth 100000 in
set_option maxHeartbeats 4000000 in
theorem sees21_same_false_log (h : VwAt w base own g v va vp lv) (hbase : base ≤ w.heap.size) (o : S47) (A8 : Option Addr) (c8 : Nat) (A9 : Option Addr) (c9 : Nat) (A10 : Option Addr) (c10 : Nat) (A11 : Option Addr) (c11 : Nat) (A13 : Option Addr) (c13 : Nat) (p : Nat) (hp4 : p < 4) (mode : Int) (a10 : Away k45 own w A10 o.f5) (l10 : o.f5.length ≤ c10) (a11 : Away k45 own w A11 o.f6) (l11 : o.f6.length ≤ c11) (a13 : Away k104 own w A13 o.f7.f1) (l13 : o.f7.f1.length ≤ c13) (hu : partsC o.f7.f1 ≤ 100000 ∧ partsRs o.f5 ≤ 100000 ∧ partsRs o.f6 ≤ 100000) (hlg : ∀ i, (v.logs.getD i []).length ≤ 1000000) (d1 : decide (o.f3 < v.id) = false) (d2 : (o.f3 == v.id) = true) (d4 : v.shut p = false) (d3 : decide (v.id < o.f3) = false) (d5 : (mode == 3) = true) : Calls Try.prog 21 #[.pointer (some ⟨g, 0, none⟩), .agg #[.int .i64 o.f0, .int .i64 o.f1, .int .i64 p, .int .i64 o.f3, .string o.f4.f0, .int .i64 o.f4.f1.f0, .int .i64 o.f4.f1.f1, .string o.f4.f1.f2, .slice A8 o.f4.f1.f3.length c8, .slice A9 o.f4.f2.length c9, .slice A10 o.f5.length c10, .slice A11 o.f6.length c11, .int .i64 o.f7.f0, .slice A13 o.f7.f1.length c13], .bool false, .int .i64 mode] w fun e w' => e = .returned (.tuple #[]) ∧ VwPost base own g ((v.close p).logged p o.f5) w w' := by
  have HV0 : Hid (VwAt (w.alloc (.cells #[.int .i64 o.f0, .int .i64 o.f1, .int .i64 p, .int .i64 o.f3, .string o.f4.f0, .int .i64 o.f4.f1.f0, .int .i64 o.f4.f1.f1, .string o.f4.f1.f2, .slice A8 o.f4.f1.f3.length c8, .slice A9 o.f4.f2.length c9, .slice A10 o.f5.length c10, .slice A11 o.f6.length c11, .int .i64 o.f7.f0, .slice A13 o.f7.f1.length c13] 47)) base own g v va vp lv) := h.below ((Below.refl _ _).alloc (Nat.le_refl _) _)
  have HUA : Hid (Upd own w own (w.alloc (.cells #[.int .i64 o.f0, .int .i64 o.f1, .int .i64 p, .int .i64 o.f3, .string o.f4.f0, .int .i64 o.f4.f1.f0, .int .i64 o.f4.f1.f1, .string o.f4.f1.f2, .slice A8 o.f4.f1.f3.length c8, .slice A9 o.f4.f2.length c9, .slice A10 o.f5.length c10, .slice A11 o.f6.length c11, .int .i64 o.f7.f0, .slice A13 o.f7.f1.length c13] 47))) := Upd.of_below ((Below.refl _ _).alloc (Nat.le_refl _) _) (fun _ _ => rfl)
  have HX0 : Hid (((w.alloc (.cells #[.int .i64 o.f0, .int .i64 o.f1, .int .i64 p, .int .i64 o.f3, .string o.f4.f0, .int .i64 o.f4.f1.f0, .int .i64 o.f4.f1.f1, .string o.f4.f1.f2, .slice A8 o.f4.f1.f3.length c8, .slice A9 o.f4.f2.length c9, .slice A10 o.f5.length c10, .slice A11 o.f6.length c11, .int .i64 o.f7.f0, .slice A13 o.f7.f1.length c13] 47))).heap[w.heap.size]? = some (.cells #[.int .i64 o.f0, .int .i64 o.f1, .int .i64 p, .int .i64 o.f3, .string o.f4.f0, .int .i64 o.f4.f1.f0, .int .i64 o.f4.f1.f1, .string o.f4.f1.f2, .slice A8 o.f4.f1.f3.length c8, .slice A9 o.f4.f2.length c9, .slice A10 o.f5.length c10, .slice A11 o.f6.length c11, .int .i64 o.f7.f0, .slice A13 o.f7.f1.length c13] 47 (0, 0))) := blk_new w _
  have HFR : Hid (own w.heap.size = 0) := h.free (Nat.le_refl _)
  have Hbase := Lib.hid hbase
  have hgl : g < w.heap.size := h.glt
  have c0 : w.cell? ⟨g, 0, none⟩ = some (.int .i64 v.id) := blk_at h.hb 0 rfl
  have cp := h.shutc p hp4
  have i1 : (0 : Int) ≤ (p : Int) := by omega
  have i2 : (p : Int) < 4 := by omega
  have A10' := Lib.hid a10
  have A11' := Lib.hid a11
  have A13' := Lib.hid a13
  have L10 := Lib.hid l10
  have L11 := Lib.hid l11
  have L13 := Lib.hid l13
  have HU' := Lib.hid hu
  have HLG := Lib.hid hlg
  rw [d4] at cp
  clear d4
  clear h hbase a10 l10 a11 l11 a13 l13 hu hlg
  go_enter Try.func21, Try.ntmps21
  go_wp2
  go_quiet (fail)
  go_wp2
  go_quiet (fail)
  go_upto_region 4 with (fail)
  clear c0 cp d1 d2 d3
  refine wp_gen (fun W => VSt (w.alloc (.cells #[.int .i64 o.f0, .int .i64 o.f1, .int .i64 p, .int .i64 o.f3, .string o.f4.f0, .int .i64 o.f4.f1.f0, .int .i64 o.f4.f1.f1, .string o.f4.f1.f2, .slice A8 o.f4.f1.f3.length c8, .slice A9 o.f4.f2.length c9, .slice A10 o.f5.length c10, .slice A11 o.f6.length c11, .int .i64 o.f7.f0, .slice A13 o.f7.f1.length c13] 47)) W base own g v w.heap.size (.cells #[.int .i64 o.f0, .int .i64 o.f1, .int .i64 p, .int .i64 o.f3, .string o.f4.f0, .int .i64 o.f4.f1.f0, .int .i64 o.f4.f1.f1, .string o.f4.f1.f2, .slice A8 o.f4.f1.f3.length c8, .slice A9 o.f4.f2.length c9, .slice A10 o.f5.length c10, .slice A11 o.f6.length c11, .int .i64 o.f7.f0, .slice A13 o.f7.f1.length c13] 47 (0, 0))) ?_ ?_
  · exact ⟨own, va, vp, lv, HV0.out.below (pw_below_drewN (pw_below_drewN (Below.refl _ _) _) _), Upd.of_below (pw_below_drewN (pw_below_drewN (Below.refl _ _) _) _) (fun _ _ => rfl), HX0.out, HFR.out, Nat.le_trans Hbase.out (by simp)⟩
  intro W1 ⟨o1, va1, vp1, lv1, hV1, hU1, hbx1, hob1, hbs1⟩
  go_upto_region 8 with (fail)
  refine wp_gen (fun W => VSt (w.alloc (.cells #[.int .i64 o.f0, .int .i64 o.f1, .int .i64 p, .int .i64 o.f3, .string o.f4.f0, .int .i64 o.f4.f1.f0, .int .i64 o.f4.f1.f1, .string o.f4.f1.f2, .slice A8 o.f4.f1.f3.length c8, .slice A9 o.f4.f2.length c9, .slice A10 o.f5.length c10, .slice A11 o.f6.length c11, .int .i64 o.f7.f0, .slice A13 o.f7.f1.length c13] 47)) W base own g v w.heap.size (.cells #[.int .i64 o.f0, .int .i64 o.f1, .int .i64 p, .int .i64 o.f3, .string o.f4.f0, .int .i64 o.f4.f1.f0, .int .i64 o.f4.f1.f1, .string o.f4.f1.f2, .slice A8 o.f4.f1.f3.length c8, .slice A9 o.f4.f2.length c9, .slice A10 o.f5.length c10, .slice A11 o.f6.length c11, .int .i64 o.f7.f0, .slice A13 o.f7.f1.length c13] 47 (0, 0))) ?_ ?_
  · exact ⟨_, _, _, _, hV1, hU1, hbx1, hob1, hbs1⟩
  intro W2 ⟨o2, va2, vp2, lv2, hV2, hU2, hbx2, hob2, hbs2⟩
  refine start_ (n := 7) (S := (fun w' => w'.cell? ⟨w.heap.size, 2, none⟩ = some (.int .i64 p))) (ds := [6]) #[false, false, false, false, false, false, false] (by kernel_rfl) rfl rfl (show W2.drew.cell? _ = _ from blk_at hbx2 2 rfl) (fun hHeld => ?_)
  refine pure_ (i := 0) (N := some 61) (v := ?_) (a' := ?_) #[true, false, false, false, false, false, false] rfl rfl (by kernel_rfl) (fun _ _ _ h => h) (Or.inl ⟨by rfl, ?_⟩) ?_ ?_
  rotate_left
  · intro w'
    go_simp
    with_reducible rfl
  rotate_left
  · simp only [Act.put, List.setIfInBounds_toArray, List.set_cons_zero, List.set_cons_succ]
    rfl
  refine pure_ (i := 1) (N := some 62) (v := ?_) (a' := ?_) #[true, true, false, false, false, false, false] rfl rfl (by kernel_rfl) (fun _ _ _ h => h) (Or.inl ⟨by rfl, ?_⟩) ?_ ?_
  rotate_left
  · intro w'
    go_simp
    with_reducible rfl
  rotate_left
  · simp only [Act.put, List.setIfInBounds_toArray, List.set_cons_zero, List.set_cons_succ]
    rfl
  refine take_ (i := 2) (N := some 63) (v := ?_) (a' := ?_) #[true, true, true, false, false, false, false] rfl rfl (by kernel_rfl) (fun _ _ _ h => h) (Or.inl ⟨by rfl, ?_⟩) hHeld ?_ ?_
  rotate_left
  · intro w' s0
    go_simp
    with_reducible rfl
  rotate_left
  · simp only [Act.put, List.setIfInBounds_toArray, List.set_cons_zero, List.set_cons_succ]
    rfl
  refine pure_ (i := 3) (N := some 64) (v := ?_) (a' := ?_) #[true, true, true, true, false, false, false] rfl rfl (by kernel_rfl) (fun _ _ _ h => h) (Or.inl ⟨by rfl, ?_⟩) ?_ ?_
  rotate_left
  · intro w'
    go_simp
    with_reducible rfl
  rotate_left
  · simp only [Act.put, List.setIfInBounds_toArray, List.set_cons_zero, List.set_cons_succ]
    rfl
  refine pure_ (i := 4) (N := some 65) (v := ?_) (a' := ?_) #[true, true, true, true, true, false, false] rfl rfl (by kernel_rfl) (fun _ _ _ h => h) (Or.inl ⟨by rfl, ?_⟩) ?_ ?_
  rotate_left
  · intro w'
    go_simp
    with_reducible rfl
  rotate_left
  · simp only [Act.put, List.setIfInBounds_toArray, List.set_cons_zero, List.set_cons_succ]
    rfl
  refine pure_ (i := 5) (N := some 66) (v := ?_) (a' := ?_) #[true, true, true, true, true, true, false] rfl rfl (by kernel_rfl) (fun _ _ _ h => h) (Or.inl ⟨by rfl, ?_⟩) ?_ ?_
  rotate_left
  · intro w'
    go_simp
    with_reducible rfl
  rotate_left
  · simp only [Act.put, List.setIfInBounds_toArray, List.set_cons_zero, List.set_cons_succ]
    rfl
  refine last_ (i := 6) (N := none) #[true, true, true, true, true, true, true] rfl rfl (by kernel_rfl) (by decide) (fun K hK => ?_)
  have hs := (show VwAt W2.drew base o2 g v va2 vp2 lv2 from hV2.below (Below.refl _ _).drew).shutc p hp4
  have hf : W2.drew.frozen? ⟨g, 5 + p, none⟩ = false := blk_frozen (hV2.below (Below.refl _ _).drew).hb (5 + p)
  refine skip_ (w1 := ?_) (by rfl) rfl ?_ ?_
  rotate_left
  · go_simp
    rfl
  refine hK.out _ _ ?_
  clear hK K hs hf
  refine done_ (by kernel_rfl) ?_
  clear hHeld
  have hog2 : o2 g ≠ 0 := by have := hV2.og; omega
  have HVd := Lib.hid ((hV2.below (Below.refl _ _).drew).setShut p hp4)
  have UD2 : Hid (Upd o2 W2 o2 _) := (Upd.of_below (Below.refl _ _).drew (fun _ _ => rfl)).set (p := ⟨g, 5 + p, none⟩) hog2 (.bool true)
  go_upto_region 9 with (fail)
  refine wp_gen (fun W => VSt (w.alloc (.cells #[.int .i64 o.f0, .int .i64 o.f1, .int .i64 p, .int .i64 o.f3, .string o.f4.f0, .int .i64 o.f4.f1.f0, .int .i64 o.f4.f1.f1, .string o.f4.f1.f2, .slice A8 o.f4.f1.f3.length c8, .slice A9 o.f4.f2.length c9, .slice A10 o.f5.length c10, .slice A11 o.f6.length c11, .int .i64 o.f7.f0, .slice A13 o.f7.f1.length c13] 47)) W base own g (v.close p) w.heap.size (.cells #[.int .i64 o.f0, .int .i64 o.f1, .int .i64 p, .int .i64 o.f3, .string o.f4.f0, .int .i64 o.f4.f1.f0, .int .i64 o.f4.f1.f1, .string o.f4.f1.f2, .slice A8 o.f4.f1.f3.length c8, .slice A9 o.f4.f2.length c9, .slice A10 o.f5.length c10, .slice A11 o.f6.length c11, .int .i64 o.f7.f0, .slice A13 o.f7.f1.length c13] 47 (0, 0))) ?_ ?_
  · exact ⟨_, _, _, _, HVd.out, hU2.trans UD2.out, (UD2.out.block _ (blk_lt hbx2) hob2).trans hbx2, (UD2.out).same _ (blk_lt hbx2) hob2, Nat.le_trans hbs2 (UD2.out).size⟩
  clear HVd UD2
  intro W3 ⟨o3, va3, vp3, lv3, hV3, hU3, hbx3, hob3, hbs3⟩
  obtain ⟨vl, hvl⟩ : ∃ vl, lv3 p = vl := ⟨_, rfl⟩
  obtain ⟨xl, hxl⟩ : ∃ xl, (v.close p).logs.getD p [] = xl := ⟨_, rfl⟩
  have HLV := Lib.hid hvl
  have HXL := Lib.hid hxl
  have HVl : Hid (W3.cell? ⟨g, 9 + p, none⟩ = some vl) := by rw [← hvl]; exact Lib.hid (hV3.logc p hp4)
  have HRp : Hid (Kd.R k45 45 W3 base (fun k => o3 k = 6 + p) vl xl) := by rw [← hvl, ← hxl]; exact Lib.hid (hV3.rl p hp4)
  have HLX : Hid (xl.length ≤ 1000000) := by
    rw [← hxl]
    show Hid ((v.logs.getD p []).length ≤ 1000000)
    exact Lib.hid (HLG.out p)
  have HLY : Hid (o.f5.length ≤ 1000000) := by have := partsRs_len o.f5; have := HU'.out.2.1; exact Lib.hid (by omega)
  have HX44 : Hid (∀ W, Below W3.heap.size W3 W → Calls Try.prog 44 #[.slice A10 o.f5.length c10] W fun e w' => ∃ v, e = .returned v ∧ Hid (Kd.R k45 45 w' W.heap.size (fun _ => True) v o.f5) ∧ Hid (Below W.heap.size W w')) := fun W hW => copyRecords44 o.f5 A10 c10 W (A10'.out _ _ ((HUA.out.trans hU3).trans (Upd.of_below hW (fun _ _ => rfl)))) L10.out HU'.out.2.1
  clear hvl hxl
  go_wp2
  refine start_ (n := 18) (S := (fun w' => w'.cell? ⟨g, 9 + p, none⟩ = some vl ∧ w'.cell? ⟨w.heap.size, 2, none⟩ = some (.int .i64 p) ∧ w'.cell? ⟨w.heap.size, 10, none⟩ = some (.slice A10 o.f5.length c10))) (ds := [17]) #[false, false, false, false, false, false, false, false, false, false, false, false, false, false, false, false, false, false] (by kernel_rfl) rfl rfl ⟨(show W3.drew.cell? _ = _ from HVl.out), (show W3.drew.cell? _ = _ from blk_at hbx3 2 rfl), (show W3.drew.cell? _ = _ from blk_at hbx3 10 rfl)⟩ (fun hHeld => ?_)
  have HBo : Hid (Below W3.heap.size W3 W3.drew) := (Below.refl _ _).drew
  generalize W3.drew = W at hHeld HBo ⊢
  refine pure_ (i := 0) (N := some 69) (v := ?_) (a' := ?_) #[true, false, false, false, false, false, false, false, false, false, false, false, false, false, false, false, false, false] rfl rfl (by kernel_rfl) (fun _ _ _ h => h) (Or.inl ⟨by rfl, ?_⟩) ?_ ?_
  rotate_left
  · intro w'
    go_simp
    with_reducible rfl
  rotate_left
  · simp only [Act.put, List.setIfInBounds_toArray, List.set_cons_zero, List.set_cons_succ]
    rfl
  refine pure_ (i := 1) (N := some 70) (v := ?_) (a' := ?_) #[true, true, false, false, false, false, false, false, false, false, false, false, false, false, false, false, false, false] rfl rfl (by kernel_rfl) (fun _ _ _ h => h) (Or.inl ⟨by rfl, ?_⟩) ?_ ?_
  rotate_left
  · intro w'
    go_simp
    with_reducible rfl
  rotate_left
  · simp only [Act.put, List.setIfInBounds_toArray, List.set_cons_zero, List.set_cons_succ]
    rfl
  refine take_ (i := 2) (N := some 71) (v := ?_) (a' := ?_) #[true, true, true, false, false, false, false, false, false, false, false, false, false, false, false, false, false, false] rfl rfl (by kernel_rfl) (fun _ _ _ h => h) (Or.inl ⟨by rfl, ?_⟩) hHeld ?_ ?_
  rotate_left
  · rintro w' ⟨s0, s1, s2⟩
    go_simp
    with_reducible rfl
  rotate_left
  · simp only [Act.put, List.setIfInBounds_toArray, List.set_cons_zero, List.set_cons_succ]
    rfl
  refine pure_ (i := 3) (N := some 72) (v := ?_) (a' := ?_) #[true, true, true, true, false, false, false, false, false, false, false, false, false, false, false, false, false, false] rfl rfl (by kernel_rfl) (fun _ _ _ h => h) (Or.inl ⟨by rfl, ?_⟩) ?_ ?_
  rotate_left
  · intro w'
    go_simp
    with_reducible rfl
  rotate_left
  · simp only [Act.put, List.setIfInBounds_toArray, List.set_cons_zero, List.set_cons_succ]
    rfl
  refine pure_ (i := 4) (N := some 73) (v := ?_) (a' := ?_) #[true, true, true, true, true, false, false, false, false, false, false, false, false, false, false, false, false, false] rfl rfl (by kernel_rfl) (fun _ _ _ h => h) (Or.inl ⟨by rfl, ?_⟩) ?_ ?_
  rotate_left
  · intro w'
    go_simp
    with_reducible rfl
  rotate_left
  · simp only [Act.put, List.setIfInBounds_toArray, List.set_cons_zero, List.set_cons_succ]
    rfl
  refine take_ (i := 5) (N := some 74) (v := ?_) (a' := ?_) #[true, true, true, true, true, true, false, false, false, false, false, false, false, false, false, false, false, false] rfl rfl (by kernel_rfl) (fun _ _ _ h => h) (Or.inl ⟨by rfl, ?_⟩) hHeld ?_ ?_
  rotate_left
  · rintro w' ⟨s0, s1, s2⟩
    go_simp
    with_reducible rfl
  rotate_left
  · simp only [Act.put, List.setIfInBounds_toArray, List.set_cons_zero, List.set_cons_succ]
    rfl
  refine pure_ (i := 6) (N := some 75) (v := ?_) (a' := ?_) #[true, true, true, true, true, true, true, false, false, false, false, false, false, false, false, false, false, false] rfl rfl (by kernel_rfl) (fun _ _ _ h => h) (Or.inl ⟨by rfl, ?_⟩) ?_ ?_
  rotate_left
  · intro w'
    go_simp
    with_reducible rfl
  rotate_left
  · simp only [Act.put, List.setIfInBounds_toArray, List.set_cons_zero, List.set_cons_succ]
    rfl
  refine pure_ (i := 7) (N := some 76) (v := ?_) (a' := ?_) #[true, true, true, true, true, true, true, true, false, false, false, false, false, false, false, false, false, false] rfl rfl (by kernel_rfl) (fun _ _ _ h => h) (Or.inl ⟨by rfl, ?_⟩) ?_ ?_
  rotate_left
  · intro w'
    go_simp
    with_reducible rfl
  rotate_left
  · simp only [Act.put, List.setIfInBounds_toArray, List.set_cons_zero, List.set_cons_succ]
    rfl
  refine pure_ (i := 8) (N := some 77) (v := ?_) (a' := ?_) #[true, true, true, true, true, true, true, true, true, false, false, false, false, false, false, false, false, false] rfl rfl (by kernel_rfl) (fun _ _ _ h => h) (Or.inl ⟨by rfl, ?_⟩) ?_ ?_
  rotate_left
  · intro w'
    go_simp
    with_reducible rfl
  rotate_left
  · simp only [Act.put, List.setIfInBounds_toArray, List.set_cons_zero, List.set_cons_succ]
    rfl
  refine take_ (i := 9) (N := some 78) (v := ?_) (a' := ?_) #[true, true, true, true, true, true, true, true, true, true, false, false, false, false, false, false, false, false] rfl rfl (by kernel_rfl) (fun _ _ _ h => h) (Or.inl ⟨by rfl, ?_⟩) hHeld ?_ ?_
  rotate_left
  · rintro w' ⟨s0, s1, s2⟩
    go_simp
    with_reducible rfl
  rotate_left
  · simp only [Act.put, List.setIfInBounds_toArray, List.set_cons_zero, List.set_cons_succ]
    rfl
  refine pure_ (i := 10) (N := some 79) (v := ?_) (a' := ?_) #[true, true, true, true, true, true, true, true, true, true, true, false, false, false, false, false, false, false] rfl rfl (by kernel_rfl) (fun _ _ _ h => h) (Or.inl ⟨by rfl, ?_⟩) ?_ ?_
  rotate_left
  · intro w'
    go_simp
    with_reducible rfl
  rotate_left
  · simp only [Act.put, List.setIfInBounds_toArray, List.set_cons_zero, List.set_cons_succ]
    rfl
  refine take_ (i := 11) (N := some 80) (v := ?_) (a' := ?_) #[true, true, true, true, true, true, true, true, true, true, true, true, false, false, false, false, false, false] rfl rfl (by kernel_rfl) (fun _ _ _ h => h) (Or.inl ⟨by rfl, ?_⟩) hHeld ?_ ?_
  rotate_left
  · rintro w' ⟨s0, s1, s2⟩
    go_simp
    with_reducible rfl
  rotate_left
  · simp only [Act.put, List.setIfInBounds_toArray, List.set_cons_zero, List.set_cons_succ]
    rfl
  refine pure_ (i := 14) (N := some 83) (v := ?_) (a' := ?_) #[true, true, true, true, true, true, true, true, true, true, true, true, false, false, true, false, false, false] rfl rfl (by kernel_rfl) (fun _ _ _ h => h) (Or.inl ⟨by rfl, ?_⟩) ?_ ?_
  rotate_left
  · intro w'
    go_simp
    with_reducible rfl
  rotate_left
  · simp only [Act.put, List.setIfInBounds_toArray, List.set_cons_zero, List.set_cons_succ]
    rfl
  refine pure_ (i := 15) (N := some 84) (v := ?_) (a' := ?_) #[true, true, true, true, true, true, true, true, true, true, true, true, false, false, true, true, false, false] rfl rfl (by kernel_rfl) (fun _ _ _ h => h) (Or.inl ⟨by rfl, ?_⟩) ?_ ?_
  rotate_left
  · intro w'
    go_simp
    with_reducible rfl
  rotate_left
  · simp only [Act.put, List.setIfInBounds_toArray, List.set_cons_zero, List.set_cons_succ]
    rfl
  refine one_ (i := 12) (N := some 81) #[true, true, true, true, true, true, true, true, true, true, true, true, true, false, true, true, false, false] rfl rfl (by kernel_rfl) (by decide) (fun K hK => ?_)
  refine goes_ Try.func44 (by kernel_rfl) rfl #[.slice A10 o.f5.length c10] (by rfl) rfl rfl (by simp only [List.map_toArray, List.map_cons, List.map_nil]; rfl) ?_
  refine (HX44.out W HBo.out).mono ?_
  rintro e w3 ⟨u, rfl, hu, hb3⟩
  refine ⟨_, rfl, ?_⟩
  obtain ⟨Au, cu, rfl⟩ := Kd.R_slice hu.out
  refine hK.out _ _ ⟨pw_cell_below hb3.out hHeld.1, pw_cell_below hb3.out hHeld.2.1, pw_cell_below hb3.out hHeld.2.2⟩ (fun hHeld => ?_)
  clear hK K
  refine norm_ (a' := ?_) ?_ ?_
  rotate_left
  · show Act.put _ (some 81) _ = _
    simp only [Act.put, List.setIfInBounds_toArray, List.set_cons_zero, List.set_cons_succ]
    rfl
  refine one_ (i := 13) (N := some 82) #[true, true, true, true, true, true, true, true, true, true, true, true, true, true, true, true, false, false] rfl rfl (by kernel_rfl) (by decide) (fun K hK => ?_)
  refine Kd.R_append_rows_step k45 (Rr := k45.M w3 base (fun k => W.heap.size ≤ k)) (w0 := w3) base (by rfl) (.tmp 78) (.tmp 81) 35 45 (.agg #[.string ⟨#[]⟩, .int .i64 0, .int .i64 0, .string ⟨#[]⟩, .slice none 0 0, .slice none 0 0]) 96 rfl Try.underlying35 info45 rfl (by decide) (by decide) vl xl o.f5 Au o.f5.length cu (fun k => o3 k = 6 + p ∨ W3.heap.size ≤ k) (fun k => W.heap.size ≤ k) rfl rfl ?hO ?hR (fun _ _ hp => hp) ?hok ?hfr (Below.refl _ _) ?hS ?hl ?_
  case hO => exact Kd.R_below (Kd.R_below (Kd.R_mono HRp.out (fun _ hk => .inl hk)) HBo.out) hb3.out
  case hR => exact R_readsM hu.out (Nat.le_trans hbs3 HBo.out.size)
  case hok => exact fun k hk => ⟨.inr (Nat.le_trans HBo.out.size hk), fun he => by have := Kd.R_lt HRp.out k he.symm; have := HBo.out.size; omega⟩
  case hfr => exact fun k hk => .inr (Nat.le_trans HBo.out.size (Nat.le_trans hb3.out.size hk))
  case hS => exact Nat.le_trans hbs3 (Nat.le_trans HBo.out.size hb3.out.size)
  case hl => have := HLX.out; have := HLY.out; omega
  intro v1 w4 hO4 hB4 hg4 hat4
  have HA := Lib.hid (hV3.setLog hbs3 p hp4 (HBo.out.trans (hb3.out.mono HBo.out.size)) (by rw [HLV.out]; exact hg4) (by rw [HXL.out]; exact hO4))
  obtain ⟨A1, m1, c1, rfl⟩ := R_sliced hO4
  have hlv4 : w4.cell? ⟨g, 9 + p, none⟩ = some vl := by
    rw [← HLV.out]
    refine blk_at HA.out.1 (9 + p) ?_
    match p, hp4 with
    | 0, _ => rfl
    | 1, _ => rfl
    | 2, _ => rfl
    | 3, _ => rfl
  have hf4 : w4.frozen? ⟨g, 9 + p, none⟩ = false := blk_frozen HA.out.1 (9 + p)
  have hbx4 : w4.heap[w.heap.size]? = some (.cells #[.int .i64 o.f0, .int .i64 o.f1, .int .i64 p, .int .i64 o.f3, .string o.f4.f0, .int .i64 o.f4.f1.f0, .int .i64 o.f4.f1.f1, .string o.f4.f1.f2, .slice A8 o.f4.f1.f3.length c8, .slice A9 o.f4.f2.length c9, .slice A10 o.f5.length c10, .slice A11 o.f6.length c11, .int .i64 o.f7.f0, .slice A13 o.f7.f1.length c13] 47 (0, 0)) := (hg4.block _ (Nat.lt_of_lt_of_le (blk_lt hbx3) (Nat.le_trans HBo.out.size hb3.out.size)) (fun e => by
    have h1 := HRp.out
    have h2 := h1.1 _ e.symm
    have h3 : o3 w.heap.size = 6 + p := h2
    have h4 : o3 w.heap.size = 0 := hob3
    omega)).trans ((hb3.out.block _ (Nat.lt_of_lt_of_le (blk_lt hbx3) HBo.out.size)).trans ((HBo.out.block _ (blk_lt hbx3)).trans hbx3))
  clear hO4 hB4 hg4 hat4
  refine hK.out _ _ ⟨hlv4, blk_at hbx4 2 rfl, blk_at hbx4 10 rfl⟩ (fun hHeld => ?_)
  clear hK K hbx4
  refine norm_ (a' := ?_) ?_ ?_
  rotate_left
  · show Act.put _ (some 82) _ = _
    simp only [Act.put, List.setIfInBounds_toArray, List.set_cons_zero, List.set_cons_succ]
    rfl
  refine pure_ (i := 16) (N := some 85) (v := ?_) (a' := ?_) #[true, true, true, true, true, true, true, true, true, true, true, true, true, true, true, true, true, false] rfl rfl (by kernel_rfl) (fun _ _ _ h => h) (Or.inl ⟨by rfl, ?_⟩) ?_ ?_
  rotate_left
  · intro w'
    go_simp
    with_reducible rfl
  rotate_left
  · simp only [Act.put, List.setIfInBounds_toArray, List.set_cons_zero, List.set_cons_succ]
    rfl
  refine last_ (i := 17) (N := none) #[true, true, true, true, true, true, true, true, true, true, true, true, true, true, true, true, true, true] rfl rfl (by kernel_rfl) (by decide) (fun K hK => ?_)
  refine skip_ (w1 := ?_) (by rfl) rfl ?_ ?_
  rotate_left
  · go_simp
    rfl
  refine hK.out _ _ ?_
  clear hK K hlv4 hf4
  refine done_ (by kernel_rfl) ?_
  clear hHeld
  go_wp2
  go_end0
  exact ⟨rfl, _, ⟨_, _, _, HA.out.2.1⟩, HUA.out.trans (hU3.trans HA.out.2.2)⟩
set_option maxRecDepth 100000 in
set_option maxHeartbeats 4000000 in
theorem sees21_same_false_no (h : VwAt w base own g v va vp lv) (hbase : base ≤ w.heap.size) (o : S47) (A8 : Option Addr) (c8 : Nat) (A9 : Option Addr) (c9 : Nat) (A10 : Option Addr) (c10 : Nat) (A11 : Option Addr) (c11 : Nat) (A13 : Option Addr) (c13 : Nat) (p : Nat) (hp4 : p < 4) (mode : Int) (a10 : Away k45 own w A10 o.f5) (l10 : o.f5.length ≤ c10) (a11 : Away k45 own w A11 o.f6) (l11 : o.f6.length ≤ c11) (a13 : Away k104 own w A13 o.f7.f1) (l13 : o.f7.f1.length ≤ c13) (hu : partsC o.f7.f1 ≤ 100000 ∧ partsRs o.f5 ≤ 100000 ∧ partsRs o.f6 ≤ 100000) (hlg : ∀ i, (v.logs.getD i []).length ≤ 1000000) (d1 : decide (o.f3 < v.id) = false) (d2 : (o.f3 == v.id) = true) (d4 : v.shut p = false) (d3 : decide (v.id < o.f3) = false) (d5 : (mode == 3) = false) : Calls Try.prog 21 #[.pointer (some ⟨g, 0, none⟩), .agg #[.int .i64 o.f0, .int .i64 o.f1, .int .i64 p, .int .i64 o.f3, .string o.f4.f0, .int .i64 o.f4.f1.f0, .int .i64 o.f4.f1.f1, .string o.f4.f1.f2, .slice A8 o.f4.f1.f3.length c8, .slice A9 o.f4.f2.length c9, .slice A10 o.f5.length c10, .slice A11 o.f6.length c11, .int .i64 o.f7.f0, .slice A13 o.f7.f1.length c13], .bool false, .int .i64 mode] w fun e w' => e = .returned (.tuple #[]) ∧ VwPost base own g (v.close p) w w' := by
  have HV0 : Hid (VwAt (w.alloc (.cells #[.int .i64 o.f0, .int .i64 o.f1, .int .i64 p, .int .i64 o.f3, .string o.f4.f0, .int .i64 o.f4.f1.f0, .int .i64 o.f4.f1.f1, .string o.f4.f1.f2, .slice A8 o.f4.f1.f3.length c8, .slice A9 o.f4.f2.length c9, .slice A10 o.f5.length c10, .slice A11 o.f6.length c11, .int .i64 o.f7.f0, .slice A13 o.f7.f1.length c13] 47)) base own g v va vp lv) := h.below ((Below.refl _ _).alloc (Nat.le_refl _) _)
  have HUA : Hid (Upd own w own (w.alloc (.cells #[.int .i64 o.f0, .int .i64 o.f1, .int .i64 p, .int .i64 o.f3, .string o.f4.f0, .int .i64 o.f4.f1.f0, .int .i64 o.f4.f1.f1, .string o.f4.f1.f2, .slice A8 o.f4.f1.f3.length c8, .slice A9 o.f4.f2.length c9, .slice A10 o.f5.length c10, .slice A11 o.f6.length c11, .int .i64 o.f7.f0, .slice A13 o.f7.f1.length c13] 47))) := Upd.of_below ((Below.refl _ _).alloc (Nat.le_refl _) _) (fun _ _ => rfl)
  have HX0 : Hid (((w.alloc (.cells #[.int .i64 o.f0, .int .i64 o.f1, .int .i64 p, .int .i64 o.f3, .string o.f4.f0, .int .i64 o.f4.f1.f0, .int .i64 o.f4.f1.f1, .string o.f4.f1.f2, .slice A8 o.f4.f1.f3.length c8, .slice A9 o.f4.f2.length c9, .slice A10 o.f5.length c10, .slice A11 o.f6.length c11, .int .i64 o.f7.f0, .slice A13 o.f7.f1.length c13] 47))).heap[w.heap.size]? = some (.cells #[.int .i64 o.f0, .int .i64 o.f1, .int .i64 p, .int .i64 o.f3, .string o.f4.f0, .int .i64 o.f4.f1.f0, .int .i64 o.f4.f1.f1, .string o.f4.f1.f2, .slice A8 o.f4.f1.f3.length c8, .slice A9 o.f4.f2.length c9, .slice A10 o.f5.length c10, .slice A11 o.f6.length c11, .int .i64 o.f7.f0, .slice A13 o.f7.f1.length c13] 47 (0, 0))) := blk_new w _
  have HFR : Hid (own w.heap.size = 0) := h.free (Nat.le_refl _)
  have Hbase := Lib.hid hbase
  have hgl : g < w.heap.size := h.glt
  have c0 : w.cell? ⟨g, 0, none⟩ = some (.int .i64 v.id) := blk_at h.hb 0 rfl
  have cp := h.shutc p hp4
  have i1 : (0 : Int) ≤ (p : Int) := by omega
  have i2 : (p : Int) < 4 := by omega
  have A10' := Lib.hid a10
  have A11' := Lib.hid a11
  have A13' := Lib.hid a13
  have L10 := Lib.hid l10
  have L11 := Lib.hid l11
  have L13 := Lib.hid l13
  have HU' := Lib.hid hu
  have HLG := Lib.hid hlg
  rw [d4] at cp
  clear d4
  clear h hbase a10 l10 a11 l11 a13 l13 hu hlg
  go_enter Try.func21, Try.ntmps21
  go_wp2
  go_quiet (fail)
  go_wp2
  go_quiet (fail)
  go_upto_region 4 with (fail)
  clear c0 cp d1 d2 d3
  refine wp_gen (fun W => VSt (w.alloc (.cells #[.int .i64 o.f0, .int .i64 o.f1, .int .i64 p, .int .i64 o.f3, .string o.f4.f0, .int .i64 o.f4.f1.f0, .int .i64 o.f4.f1.f1, .string o.f4.f1.f2, .slice A8 o.f4.f1.f3.length c8, .slice A9 o.f4.f2.length c9, .slice A10 o.f5.length c10, .slice A11 o.f6.length c11, .int .i64 o.f7.f0, .slice A13 o.f7.f1.length c13] 47)) W base own g v w.heap.size (.cells #[.int .i64 o.f0, .int .i64 o.f1, .int .i64 p, .int .i64 o.f3, .string o.f4.f0, .int .i64 o.f4.f1.f0, .int .i64 o.f4.f1.f1, .string o.f4.f1.f2, .slice A8 o.f4.f1.f3.length c8, .slice A9 o.f4.f2.length c9, .slice A10 o.f5.length c10, .slice A11 o.f6.length c11, .int .i64 o.f7.f0, .slice A13 o.f7.f1.length c13] 47 (0, 0))) ?_ ?_
  · exact ⟨own, va, vp, lv, HV0.out.below (pw_below_drewN (pw_below_drewN (Below.refl _ _) _) _), Upd.of_below (pw_below_drewN (pw_below_drewN (Below.refl _ _) _) _) (fun _ _ => rfl), HX0.out, HFR.out, Nat.le_trans Hbase.out (by simp)⟩
  intro W1 ⟨o1, va1, vp1, lv1, hV1, hU1, hbx1, hob1, hbs1⟩
  go_upto_region 8 with (fail)
  refine wp_gen (fun W => VSt (w.alloc (.cells #[.int .i64 o.f0, .int .i64 o.f1, .int .i64 p, .int .i64 o.f3, .string o.f4.f0, .int .i64 o.f4.f1.f0, .int .i64 o.f4.f1.f1, .string o.f4.f1.f2, .slice A8 o.f4.f1.f3.length c8, .slice A9 o.f4.f2.length c9, .slice A10 o.f5.length c10, .slice A11 o.f6.length c11, .int .i64 o.f7.f0, .slice A13 o.f7.f1.length c13] 47)) W base own g v w.heap.size (.cells #[.int .i64 o.f0, .int .i64 o.f1, .int .i64 p, .int .i64 o.f3, .string o.f4.f0, .int .i64 o.f4.f1.f0, .int .i64 o.f4.f1.f1, .string o.f4.f1.f2, .slice A8 o.f4.f1.f3.length c8, .slice A9 o.f4.f2.length c9, .slice A10 o.f5.length c10, .slice A11 o.f6.length c11, .int .i64 o.f7.f0, .slice A13 o.f7.f1.length c13] 47 (0, 0))) ?_ ?_
  · exact ⟨_, _, _, _, hV1, hU1, hbx1, hob1, hbs1⟩
  intro W2 ⟨o2, va2, vp2, lv2, hV2, hU2, hbx2, hob2, hbs2⟩
  refine start_ (n := 7) (S := (fun w' => w'.cell? ⟨w.heap.size, 2, none⟩ = some (.int .i64 p))) (ds := [6]) #[false, false, false, false, false, false, false] (by kernel_rfl) rfl rfl (show W2.drew.cell? _ = _ from blk_at hbx2 2 rfl) (fun hHeld => ?_)
  refine pure_ (i := 0) (N := some 61) (v := ?_) (a' := ?_) #[true, false, false, false, false, false, false] rfl rfl (by kernel_rfl) (fun _ _ _ h => h) (Or.inl ⟨by rfl, ?_⟩) ?_ ?_
  rotate_left
  · intro w'
    go_simp
    with_reducible rfl
  rotate_left
  · simp only [Act.put, List.setIfInBounds_toArray, List.set_cons_zero, List.set_cons_succ]
    rfl
  refine pure_ (i := 1) (N := some 62) (v := ?_) (a' := ?_) #[true, true, false, false, false, false, false] rfl rfl (by kernel_rfl) (fun _ _ _ h => h) (Or.inl ⟨by rfl, ?_⟩) ?_ ?_
  rotate_left
  · intro w'
    go_simp
    with_reducible rfl
  rotate_left
  · simp only [Act.put, List.setIfInBounds_toArray, List.set_cons_zero, List.set_cons_succ]
    rfl
  refine take_ (i := 2) (N := some 63) (v := ?_) (a' := ?_) #[true, true, true, false, false, false, false] rfl rfl (by kernel_rfl) (fun _ _ _ h => h) (Or.inl ⟨by rfl, ?_⟩) hHeld ?_ ?_
  rotate_left
  · intro w' s0
    go_simp
    with_reducible rfl
  rotate_left
  · simp only [Act.put, List.setIfInBounds_toArray, List.set_cons_zero, List.set_cons_succ]
    rfl
  refine pure_ (i := 3) (N := some 64) (v := ?_) (a' := ?_) #[true, true, true, true, false, false, false] rfl rfl (by kernel_rfl) (fun _ _ _ h => h) (Or.inl ⟨by rfl, ?_⟩) ?_ ?_
  rotate_left
  · intro w'
    go_simp
    with_reducible rfl
  rotate_left
  · simp only [Act.put, List.setIfInBounds_toArray, List.set_cons_zero, List.set_cons_succ]
    rfl
  refine pure_ (i := 4) (N := some 65) (v := ?_) (a' := ?_) #[true, true, true, true, true, false, false] rfl rfl (by kernel_rfl) (fun _ _ _ h => h) (Or.inl ⟨by rfl, ?_⟩) ?_ ?_
  rotate_left
  · intro w'
    go_simp
    with_reducible rfl
  rotate_left
  · simp only [Act.put, List.setIfInBounds_toArray, List.set_cons_zero, List.set_cons_succ]
    rfl
  refine pure_ (i := 5) (N := some 66) (v := ?_) (a' := ?_) #[true, true, true, true, true, true, false] rfl rfl (by kernel_rfl) (fun _ _ _ h => h) (Or.inl ⟨by rfl, ?_⟩) ?_ ?_
  rotate_left
  · intro w'
    go_simp
    with_reducible rfl
  rotate_left
  · simp only [Act.put, List.setIfInBounds_toArray, List.set_cons_zero, List.set_cons_succ]
    rfl
  refine last_ (i := 6) (N := none) #[true, true, true, true, true, true, true] rfl rfl (by kernel_rfl) (by decide) (fun K hK => ?_)
  have hs := (show VwAt W2.drew base o2 g v va2 vp2 lv2 from hV2.below (Below.refl _ _).drew).shutc p hp4
  have hf : W2.drew.frozen? ⟨g, 5 + p, none⟩ = false := blk_frozen (hV2.below (Below.refl _ _).drew).hb (5 + p)
  refine skip_ (w1 := ?_) (by rfl) rfl ?_ ?_
  rotate_left
  · go_simp
    rfl
  refine hK.out _ _ ?_
  clear hK K hs hf
  refine done_ (by kernel_rfl) ?_
  clear hHeld
  have hog2 : o2 g ≠ 0 := by have := hV2.og; omega
  have HVd := Lib.hid ((hV2.below (Below.refl _ _).drew).setShut p hp4)
  have UD2 : Hid (Upd o2 W2 o2 _) := (Upd.of_below (Below.refl _ _).drew (fun _ _ => rfl)).set (p := ⟨g, 5 + p, none⟩) hog2 (.bool true)
  go_upto_region 9 with (fail)
  refine wp_gen (fun W => VSt (w.alloc (.cells #[.int .i64 o.f0, .int .i64 o.f1, .int .i64 p, .int .i64 o.f3, .string o.f4.f0, .int .i64 o.f4.f1.f0, .int .i64 o.f4.f1.f1, .string o.f4.f1.f2, .slice A8 o.f4.f1.f3.length c8, .slice A9 o.f4.f2.length c9, .slice A10 o.f5.length c10, .slice A11 o.f6.length c11, .int .i64 o.f7.f0, .slice A13 o.f7.f1.length c13] 47)) W base own g (v.close p) w.heap.size (.cells #[.int .i64 o.f0, .int .i64 o.f1, .int .i64 p, .int .i64 o.f3, .string o.f4.f0, .int .i64 o.f4.f1.f0, .int .i64 o.f4.f1.f1, .string o.f4.f1.f2, .slice A8 o.f4.f1.f3.length c8, .slice A9 o.f4.f2.length c9, .slice A10 o.f5.length c10, .slice A11 o.f6.length c11, .int .i64 o.f7.f0, .slice A13 o.f7.f1.length c13] 47 (0, 0))) ?_ ?_
  · exact ⟨_, _, _, _, HVd.out, hU2.trans UD2.out, (UD2.out.block _ (blk_lt hbx2) hob2).trans hbx2, (UD2.out).same _ (blk_lt hbx2) hob2, Nat.le_trans hbs2 (UD2.out).size⟩
  clear HVd UD2
  intro W3 ⟨o3, va3, vp3, lv3, hV3, hU3, hbx3, hob3, hbs3⟩
  go_wp2
  go_end0
  exact ⟨rfl, _, ⟨_, _, _, hV3⟩, HUA.out.trans hU3⟩
set_option maxRecDepth 100000 in
set_option maxHeartbeats 4000000 in
theorem sees21_older (h : VwAt w base own g v va vp lv) (hbase : base ≤ w.heap.size) (o : S47) (A8 : Option Addr) (c8 : Nat) (A9 : Option Addr) (c9 : Nat) (A10 : Option Addr) (c10 : Nat) (A11 : Option Addr) (c11 : Nat) (A13 : Option Addr) (c13 : Nat) (p : Nat) (hp4 : p < 4) (mode : Int) (a10 : Away k45 own w A10 o.f5) (l10 : o.f5.length ≤ c10) (a11 : Away k45 own w A11 o.f6) (l11 : o.f6.length ≤ c11) (a13 : Away k104 own w A13 o.f7.f1) (l13 : o.f7.f1.length ≤ c13) (hu : partsC o.f7.f1 ≤ 100000 ∧ partsRs o.f5 ≤ 100000 ∧ partsRs o.f6 ≤ 100000) (hlg : ∀ i, (v.logs.getD i []).length ≤ 1000000) (c : Bool) (d1 : decide (o.f3 < v.id) = true) : Calls Try.prog 21 #[.pointer (some ⟨g, 0, none⟩), .agg #[.int .i64 o.f0, .int .i64 o.f1, .int .i64 p, .int .i64 o.f3, .string o.f4.f0, .int .i64 o.f4.f1.f0, .int .i64 o.f4.f1.f1, .string o.f4.f1.f2, .slice A8 o.f4.f1.f3.length c8, .slice A9 o.f4.f2.length c9, .slice A10 o.f5.length c10, .slice A11 o.f6.length c11, .int .i64 o.f7.f0, .slice A13 o.f7.f1.length c13], .bool c, .int .i64 mode] w fun e w' => e = .returned (.tuple #[]) ∧ VwPost base own g v w w' := by
  have HV0 : Hid (VwAt (w.alloc (.cells #[.int .i64 o.f0, .int .i64 o.f1, .int .i64 p, .int .i64 o.f3, .string o.f4.f0, .int .i64 o.f4.f1.f0, .int .i64 o.f4.f1.f1, .string o.f4.f1.f2, .slice A8 o.f4.f1.f3.length c8, .slice A9 o.f4.f2.length c9, .slice A10 o.f5.length c10, .slice A11 o.f6.length c11, .int .i64 o.f7.f0, .slice A13 o.f7.f1.length c13] 47)) base own g v va vp lv) := h.below ((Below.refl _ _).alloc (Nat.le_refl _) _)
  have HUA : Hid (Upd own w own (w.alloc (.cells #[.int .i64 o.f0, .int .i64 o.f1, .int .i64 p, .int .i64 o.f3, .string o.f4.f0, .int .i64 o.f4.f1.f0, .int .i64 o.f4.f1.f1, .string o.f4.f1.f2, .slice A8 o.f4.f1.f3.length c8, .slice A9 o.f4.f2.length c9, .slice A10 o.f5.length c10, .slice A11 o.f6.length c11, .int .i64 o.f7.f0, .slice A13 o.f7.f1.length c13] 47))) := Upd.of_below ((Below.refl _ _).alloc (Nat.le_refl _) _) (fun _ _ => rfl)
  have HX0 : Hid (((w.alloc (.cells #[.int .i64 o.f0, .int .i64 o.f1, .int .i64 p, .int .i64 o.f3, .string o.f4.f0, .int .i64 o.f4.f1.f0, .int .i64 o.f4.f1.f1, .string o.f4.f1.f2, .slice A8 o.f4.f1.f3.length c8, .slice A9 o.f4.f2.length c9, .slice A10 o.f5.length c10, .slice A11 o.f6.length c11, .int .i64 o.f7.f0, .slice A13 o.f7.f1.length c13] 47))).heap[w.heap.size]? = some (.cells #[.int .i64 o.f0, .int .i64 o.f1, .int .i64 p, .int .i64 o.f3, .string o.f4.f0, .int .i64 o.f4.f1.f0, .int .i64 o.f4.f1.f1, .string o.f4.f1.f2, .slice A8 o.f4.f1.f3.length c8, .slice A9 o.f4.f2.length c9, .slice A10 o.f5.length c10, .slice A11 o.f6.length c11, .int .i64 o.f7.f0, .slice A13 o.f7.f1.length c13] 47 (0, 0))) := blk_new w _
  have HFR : Hid (own w.heap.size = 0) := h.free (Nat.le_refl _)
  have Hbase := Lib.hid hbase
  have hgl : g < w.heap.size := h.glt
  have c0 : w.cell? ⟨g, 0, none⟩ = some (.int .i64 v.id) := blk_at h.hb 0 rfl
  have cp := h.shutc p hp4
  have i1 : (0 : Int) ≤ (p : Int) := by omega
  have i2 : (p : Int) < 4 := by omega
  have A10' := Lib.hid a10
  have A11' := Lib.hid a11
  have A13' := Lib.hid a13
  have L10 := Lib.hid l10
  have L11 := Lib.hid l11
  have L13 := Lib.hid l13
  have HU' := Lib.hid hu
  have HLG := Lib.hid hlg
  clear h hbase a10 l10 a11 l11 a13 l13 hu hlg
  go_enter Try.func21, Try.ntmps21
  go_wp2
  go_quiet (fail)
  go_wp2
  (try simp only [Exit.inBlock, Exit.then])
  refine bodyPost_ret (results_none rfl _ _ _) rfl ?_
  exact ⟨rfl, own, ⟨va, vp, lv, HV0.out.below (pw_below_drewN (Below.refl _ _) _)⟩, HUA.out.trans (Upd.of_below (pw_below_drewN (Below.refl _ _) _) (fun _ _ => rfl))⟩
set_option maxRecDepth 100000 in
set_option maxHeartbeats 4000000 in
theorem sees21_again (h : VwAt w base own g v va vp lv) (hbase : base ≤ w.heap.size) (o : S47) (A8 : Option Addr) (c8 : Nat) (A9 : Option Addr) (c9 : Nat) (A10 : Option Addr) (c10 : Nat) (A11 : Option Addr) (c11 : Nat) (A13 : Option Addr) (c13 : Nat) (p : Nat) (hp4 : p < 4) (mode : Int) (a10 : Away k45 own w A10 o.f5) (l10 : o.f5.length ≤ c10) (a11 : Away k45 own w A11 o.f6) (l11 : o.f6.length ≤ c11) (a13 : Away k104 own w A13 o.f7.f1) (l13 : o.f7.f1.length ≤ c13) (hu : partsC o.f7.f1 ≤ 100000 ∧ partsRs o.f5 ≤ 100000 ∧ partsRs o.f6 ≤ 100000) (hlg : ∀ i, (v.logs.getD i []).length ≤ 1000000) (c : Bool) (d1 : decide (o.f3 < v.id) = false) (d2 : (o.f3 == v.id) = true) (d4 : v.shut p = true) : Calls Try.prog 21 #[.pointer (some ⟨g, 0, none⟩), .agg #[.int .i64 o.f0, .int .i64 o.f1, .int .i64 p, .int .i64 o.f3, .string o.f4.f0, .int .i64 o.f4.f1.f0, .int .i64 o.f4.f1.f1, .string o.f4.f1.f2, .slice A8 o.f4.f1.f3.length c8, .slice A9 o.f4.f2.length c9, .slice A10 o.f5.length c10, .slice A11 o.f6.length c11, .int .i64 o.f7.f0, .slice A13 o.f7.f1.length c13], .bool c, .int .i64 mode] w fun e w' => e = .returned (.tuple #[]) ∧ VwPost base own g v w w' := by
  have HV0 : Hid (VwAt (w.alloc (.cells #[.int .i64 o.f0, .int .i64 o.f1, .int .i64 p, .int .i64 o.f3, .string o.f4.f0, .int .i64 o.f4.f1.f0, .int .i64 o.f4.f1.f1, .string o.f4.f1.f2, .slice A8 o.f4.f1.f3.length c8, .slice A9 o.f4.f2.length c9, .slice A10 o.f5.length c10, .slice A11 o.f6.length c11, .int .i64 o.f7.f0, .slice A13 o.f7.f1.length c13] 47)) base own g v va vp lv) := h.below ((Below.refl _ _).alloc (Nat.le_refl _) _)
  have HUA : Hid (Upd own w own (w.alloc (.cells #[.int .i64 o.f0, .int .i64 o.f1, .int .i64 p, .int .i64 o.f3, .string o.f4.f0, .int .i64 o.f4.f1.f0, .int .i64 o.f4.f1.f1, .string o.f4.f1.f2, .slice A8 o.f4.f1.f3.length c8, .slice A9 o.f4.f2.length c9, .slice A10 o.f5.length c10, .slice A11 o.f6.length c11, .int .i64 o.f7.f0, .slice A13 o.f7.f1.length c13] 47))) := Upd.of_below ((Below.refl _ _).alloc (Nat.le_refl _) _) (fun _ _ => rfl)
  have HX0 : Hid (((w.alloc (.cells #[.int .i64 o.f0, .int .i64 o.f1, .int .i64 p, .int .i64 o.f3, .string o.f4.f0, .int .i64 o.f4.f1.f0, .int .i64 o.f4.f1.f1, .string o.f4.f1.f2, .slice A8 o.f4.f1.f3.length c8, .slice A9 o.f4.f2.length c9, .slice A10 o.f5.length c10, .slice A11 o.f6.length c11, .int .i64 o.f7.f0, .slice A13 o.f7.f1.length c13] 47))).heap[w.heap.size]? = some (.cells #[.int .i64 o.f0, .int .i64 o.f1, .int .i64 p, .int .i64 o.f3, .string o.f4.f0, .int .i64 o.f4.f1.f0, .int .i64 o.f4.f1.f1, .string o.f4.f1.f2, .slice A8 o.f4.f1.f3.length c8, .slice A9 o.f4.f2.length c9, .slice A10 o.f5.length c10, .slice A11 o.f6.length c11, .int .i64 o.f7.f0, .slice A13 o.f7.f1.length c13] 47 (0, 0))) := blk_new w _
  have HFR : Hid (own w.heap.size = 0) := h.free (Nat.le_refl _)
  have Hbase := Lib.hid hbase
  have hgl : g < w.heap.size := h.glt
  have c0 : w.cell? ⟨g, 0, none⟩ = some (.int .i64 v.id) := blk_at h.hb 0 rfl
  have cp := h.shutc p hp4
  have i1 : (0 : Int) ≤ (p : Int) := by omega
  have i2 : (p : Int) < 4 := by omega
  have A10' := Lib.hid a10
  have A11' := Lib.hid a11
  have A13' := Lib.hid a13
  have L10 := Lib.hid l10
  have L11 := Lib.hid l11
  have L13 := Lib.hid l13
  have HU' := Lib.hid hu
  have HLG := Lib.hid hlg
  rw [d4] at cp
  clear d4
  clear h hbase a10 l10 a11 l11 a13 l13 hu hlg
  go_enter Try.func21, Try.ntmps21
  go_wp2
  go_quiet (fail)
  go_wp2
  (try simp only [Exit.inBlock, Exit.then])
  refine bodyPost_ret (results_none rfl _ _ _) rfl ?_
  exact ⟨rfl, own, ⟨va, vp, lv, HV0.out.below (pw_below_drewN (Below.refl _ _) _)⟩, HUA.out.trans (Upd.of_below (pw_below_drewN (Below.refl _ _) _) (fun _ _ => rfl))⟩
theorem sees21 (h : VwAt w base own g v va vp lv) (hbase : base ≤ w.heap.size) (o : S47) (A8 : Option Addr) (c8 : Nat) (A9 : Option Addr) (c9 : Nat) (A10 : Option Addr) (c10 : Nat) (A11 : Option Addr) (c11 : Nat) (A13 : Option Addr) (c13 : Nat) (p : Nat) (hp4 : p < 4) (mode : Int) (a10 : Away k45 own w A10 o.f5) (l10 : o.f5.length ≤ c10) (a11 : Away k45 own w A11 o.f6) (l11 : o.f6.length ≤ c11) (a13 : Away k104 own w A13 o.f7.f1) (l13 : o.f7.f1.length ≤ c13) (hu : partsC o.f7.f1 ≤ 100000 ∧ partsRs o.f5 ≤ 100000 ∧ partsRs o.f6 ≤ 100000) (hlg : ∀ i, (v.logs.getD i []).length ≤ 1000000) (c : Bool) : Calls Try.prog 21 #[.pointer (some ⟨g, 0, none⟩), .agg #[.int .i64 o.f0, .int .i64 o.f1, .int .i64 p, .int .i64 o.f3, .string o.f4.f0, .int .i64 o.f4.f1.f0, .int .i64 o.f4.f1.f1, .string o.f4.f1.f2, .slice A8 o.f4.f1.f3.length c8, .slice A9 o.f4.f2.length c9, .slice A10 o.f5.length c10, .slice A11 o.f6.length c11, .int .i64 o.f7.f0, .slice A13 o.f7.f1.length c13], .bool c, .int .i64 mode] w fun e w' => e = .returned (.tuple #[]) ∧ VwPost base own g (v.sees p o.f3 o.f5 o.f7 o.f6 c mode) w w' := by
  unfold Vw.sees Vw.skips
  rw [Int.toNat_natCast]
  by_cases a : o.f3 < v.id
  · rw [decide_eq_true a, Bool.true_or, if_pos rfl]
    exact sees21_older h hbase o A8 c8 A9 c9 A10 c10 A11 c11 A13 c13 p hp4 mode a10 l10 a11 l11 a13 l13 hu hlg c (decide_eq_true a)
  rw [decide_eq_false a, Bool.false_or]
  by_cases b : o.f3 = v.id
  · have b' : (o.f3 == v.id) = true := by simp [b]
    rw [b', Bool.true_and]
    rcases d : v.shut p with _ | _
    · rw [if_neg (by simp), show v.begun o.f3 = v by unfold Vw.begun; rw [if_neg (by omega)]]
      have a' : decide (v.id < o.f3) = false := decide_eq_false (by omega)
      cases c
      · rw [told_false]
        by_cases m : mode = 3
        · rw [if_pos m]
          exact sees21_same_false_log h hbase o A8 c8 A9 c9 A10 c10 A11 c11 A13 c13 p hp4 mode a10 l10 a11 l11 a13 l13 hu hlg (decide_eq_false a) b' d a' (by simp [m])
        · rw [if_neg m]
          exact sees21_same_false_no h hbase o A8 c8 A9 c9 A10 c10 A11 c11 A13 c13 p hp4 mode a10 l10 a11 l11 a13 l13 hu hlg (decide_eq_false a) b' d a' (beq_false_of_ne m)
      · rw [told_true]
        by_cases m : mode = 3
        · rw [if_pos m]
          exact sees21_same_true_log h hbase o A8 c8 A9 c9 A10 c10 A11 c11 A13 c13 p hp4 mode a10 l10 a11 l11 a13 l13 hu hlg (decide_eq_false a) b' d a' (by simp [m])
        · rw [if_neg m]
          exact sees21_same_true_no h hbase o A8 c8 A9 c9 A10 c10 A11 c11 A13 c13 p hp4 mode a10 l10 a11 l11 a13 l13 hu hlg (decide_eq_false a) b' d a' (beq_false_of_ne m)
    · rw [if_pos rfl]
      exact sees21_again h hbase o A8 c8 A9 c9 A10 c10 A11 c11 A13 c13 p hp4 mode a10 l10 a11 l11 a13 l13 hu hlg c (decide_eq_false a) b' d
  · have b' : (o.f3 == v.id) = false := beq_false_of_ne b
    rw [b', Bool.false_and, if_neg (by simp), show v.begun o.f3 = Vw.fresh o.f3 by unfold Vw.begun; rw [if_pos (by omega)]]
    have a' : decide (v.id < o.f3) = true := decide_eq_true (by omega)
    cases c
    · rw [told_false]
      by_cases m : mode = 3
      · rw [if_pos m]
        exact sees21_fresh_false_log h hbase o A8 c8 A9 c9 A10 c10 A11 c11 A13 c13 p hp4 mode a10 l10 a11 l11 a13 l13 hu hlg (decide_eq_false a) b' a' (by simp [m])
      · rw [if_neg m]
        exact sees21_fresh_false_no h hbase o A8 c8 A9 c9 A10 c10 A11 c11 A13 c13 p hp4 mode a10 l10 a11 l11 a13 l13 hu hlg (decide_eq_false a) b' a' (beq_false_of_ne m)
    · rw [told_true]
      by_cases m : mode = 3
      · rw [if_pos m]
        exact sees21_fresh_true_log h hbase o A8 c8 A9 c9 A10 c10 A11 c11 A13 c13 p hp4 mode a10 l10 a11 l11 a13 l13 hu hlg (decide_eq_false a) b' a' (by simp [m])
      · rw [if_neg m]
        exact sees21_fresh_true_no h hbase o A8 c8 A9 c9 A10 c10 A11 c11 A13 c13 p hp4 mode a10 l10 a11 l11 a13 l13 hu hlg (decide_eq_false a) b' a' (beq_false_of_ne m)
end
end Go.Proofs.Ytomfknblehkocaa.C
