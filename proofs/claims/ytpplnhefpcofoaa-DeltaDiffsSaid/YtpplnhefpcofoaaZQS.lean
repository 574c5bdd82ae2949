/- The reference's Diff, walked. -/
import Derived.Test.YtpplnhefpcofoaaZQG
import Derived.Test.YtpplnhefpcofoaaZQP
namespace Go.Proofs.Ytpplnhefpcofoaa.PDeltaJoin
open Go.RowKit Go.Proofs.YtpplnhefpcofoaaW.PrintWords Go.Proofs.YtpplnhefpcofoaaW.PrintLast
set_option linter.unusedVariables false
set_option linter.unusedSimpArgs false

set_option maxRecDepth 100000 in
set_option maxHeartbeats 16000000 in
theorem rdiff23 (num : Int) (cs : List S63) (dnum : Int) (set : List S63) (A B : Option Addr) (ca cb : Nat) (w : World) (hA : Kd.C k63 w A cs.length cs) (hB : Kd.C k63 w B set.length set) (hca : cs.length ≤ ca) (hcb : set.length ≤ cb) (pA : partsC cs ≤ 10000) (pB : partsC set ≤ 10000) (vA : chkS num cs = 0 → ∀ c ∈ cs, ∀ z ∈ c.f1, OkV z) (vB : chkS dnum set = 0 → ∀ c ∈ set, ∀ z ∈ c.f1, OkV z) :
    Calls Try.prog 23 #[.agg #[.int .i64 num, .slice A cs.length ca], .agg #[.int .i64 dnum, .slice B set.length cb]] w fun e w' => DAns (diffP num cs dnum set) w e w' := by
  have HT16 : Hid (∀ W, Below w.heap.size w W → Calls Try.prog 38 #[.agg #[.int .i64 num, .slice A cs.length ca]] W fun e w' => e = .returned (.int .i64 (chkS num cs)) ∧ Hid (Below W.heap.size W w')) := Lib.hid (fun W h => rcheckState38 num cs A ca W (Kd.C_below hA h))
  have HT17 : Hid (∀ W, Below w.heap.size w W → Calls Try.prog 38 #[.agg #[.int .i64 dnum, .slice B set.length cb]] W fun e w' => e = .returned (.int .i64 (chkS dnum set)) ∧ Hid (Below W.heap.size W w')) := Lib.hid (fun W h => rcheckState38 dnum set B cb W (Kd.C_below hB h))
  have HAA : Hid (∀ W (u : ByteArray), Below w.heap.size w W → Calls Try.prog 40 #[.slice A cs.length ca, .string u] W fun e w' => AtAns (atP cs u) W e w') := Lib.hid (fun W u h => at40 cs A ca u W (Kd.C_below hA h) hca (by omega))
  have HAB : Hid (∀ W (u : ByteArray), Below w.heap.size w W → Calls Try.prog 40 #[.slice B set.length cb, .string u] W fun e w' => AtAns (atP set u) W e w') := Lib.hid (fun W u h => at40 set B cb u W (Kd.C_below hB h) hcb (by omega))
  obtain ⟨r, hr, hkeys⟩ := keys39 cs set [] [] (by have := partsC_len cs; omega) (by have := partsC_len set; omega) (by simp) (by simp)
  have HKC : Hid (∀ W, Below w.heap.size w W → Calls Try.prog 39 #[.slice A cs.length ca, .slice B set.length cb, .slice none 0 0, .slice none 0 0] W fun e w' => KeysAns r W e w') := Lib.hid (fun W h => hkeys A B none none ca cb 0 0 W (Kd.C_below hA h) (Kd.C_below hB h) (Kd.C_nil _ _) (Kd.C_nil _ _) hca hcb (Nat.le_refl _) (Nat.le_refl _))
  have HKR := Lib.hid hr.1
  have HKM : Hid (∀ k, k ∈ r ↔ inC cs k ∨ inC set k) := Lib.hid (fun k => by rw [hr.2 k]; simp)
  have HvA := Lib.hid vA
  have HvB := Lib.hid vB
  have hnr : r.length ≤ 40000 := by
    have := nodup_len r (cs.map S63.f0 ++ set.map S63.f0) hr.1.nodup (fun x hx => by
      rcases (HKM.out x).1 hx with ⟨c, hc, e⟩ | ⟨c, hc, e⟩
      · exact List.mem_append_left _ (e ▸ List.mem_map_of_mem hc)
      · exact List.mem_append_right _ (e ▸ List.mem_map_of_mem hc))
    simp at this
    have := partsC_len cs
    have := partsC_len set
    omega
  obtain ⟨n, hn⟩ : ∃ n, n = cs.length := ⟨_, rfl⟩
  obtain ⟨m, hm⟩ : ∃ n, n = set.length := ⟨_, rfl⟩
  rw [← hn] at HT16 HAA HKC ⊢
  rw [← hm] at HT17 HAB HKC ⊢
  clear hA hB hca hcb pA pB vA vB hkeys hr hn hm
  have H0 : Hid ((((w.alloc (.cells #[.int .i64 num, .slice A n ca] 24)).alloc (.cells #[.int .i64 dnum, .slice B m cb] 24)).alloc (.cells #[.int .i64 0, .slice none 0 0, .slice none 0 0] 27)).heap[w.heap.size]? = some (.cells #[.int .i64 num, .slice A n ca] 24 (0, 0))) := Lib.hid (blk_alloc (blk_alloc (blk_new w _) _) _)
  have H1 : Hid ((((w.alloc (.cells #[.int .i64 num, .slice A n ca] 24)).alloc (.cells #[.int .i64 dnum, .slice B m cb] 24)).alloc (.cells #[.int .i64 0, .slice none 0 0, .slice none 0 0] 27)).heap[w.heap.size + 1]? = some (.cells #[.int .i64 dnum, .slice B m cb] 24 (0, 0))) := Lib.hid (by
    have := blk_new (w.alloc (.cells #[.int .i64 num, .slice A n ca] 24)) (.cells #[.int .i64 dnum, .slice B m cb] 24)
    rw [World.size_alloc] at this
    exact blk_alloc this _)
  have H2 : Hid ((((w.alloc (.cells #[.int .i64 num, .slice A n ca] 24)).alloc (.cells #[.int .i64 dnum, .slice B m cb] 24)).alloc (.cells #[.int .i64 0, .slice none 0 0, .slice none 0 0] 27)).heap[w.heap.size + 1 + 1]? = some (.cells #[.int .i64 0, .slice none 0 0, .slice none 0 0] 27 (0, 0))) := Lib.hid (by
    have := blk_new ((w.alloc (.cells #[.int .i64 num, .slice A n ca] 24)).alloc (.cells #[.int .i64 dnum, .slice B m cb] 24)) (.cells #[.int .i64 0, .slice none 0 0, .slice none 0 0] 27)
    rw [World.size_alloc, World.size_alloc] at this
    exact this)
  have HW : Hid (Below w.heap.size w (((w.alloc (.cells #[.int .i64 num, .slice A n ca] 24)).alloc (.cells #[.int .i64 dnum, .slice B m cb] 24)).alloc (.cells #[.int .i64 0, .slice none 0 0, .slice none 0 0] 27))) := Lib.hid ((((Below.refl _ w).alloc (Nat.le_refl _) _).alloc (by simp) _).alloc (by simp; omega) _)
  go_enter Try.func23, Try.ntmps23
  go_upto_region 1 with (fail)
  obtain ⟨g2, e2⟩ : ∃ g, g = w.heap.size + 1 + 1 := ⟨_, rfl⟩
  rw [← e2] at H2 ⊢
  obtain ⟨g1, e1⟩ : ∃ g, g = w.heap.size + 1 := ⟨_, rfl⟩
  rw [← e1] at H1 ⊢
  obtain ⟨g, e0⟩ : ∃ g, g = w.heap.size := ⟨_, rfl⟩
  rw [← e0] at H0 ⊢
  have HG2 : Hid (w.heap.size ≤ g2) := Lib.hid (by omega)
  clear e0 e1 e2
  generalize (((w.alloc (.cells #[.int .i64 num, .slice A n ca] 24)).alloc (.cells #[.int .i64 dnum, .slice B m cb] 24)).alloc (.cells #[.int .i64 0, .slice none 0 0, .slice none 0 0] 27)) = wa at *
  have a0 : wa.cell? ⟨g, 0, none⟩ = some (.int .i64 num) := blk_at H0.out 0 rfl
  have a1 : wa.cell? ⟨g, 1, none⟩ = some (.slice A n ca) := blk_at H0.out 1 rfl
  generalize hz : chkS num cs = z at HT16
  have HZ := Lib.hid hz
  clear hz
  by_cases hz0 : z = 0
  rotate_left
  · have HR : Hid (diffP num cs dnum set = (0, [], [], z)) := Lib.hid (by unfold diffP; rw [HZ.out, if_pos hz0])
    have k1 : (z == 0) = false := beq_false_of_ne hz0
    have k2 : (z != 0) = true := by simp [hz0]
    clear hz0
    go_wp2_with (go_at_call 38; refine (HT16.out wa HW.out).mono ?_; rintro e w1 ⟨rfl, hb1⟩
                 have HW1 : Hid (Below w.heap.size w w1) := HW.out.trans (hb1.out.mono HW.out.size)
                 have HQ2 := Lib.hid (blk_below H2.out hb1.out)
                 have y0 : w1.cell? ⟨g2, 0, none⟩ = some (.int .i64 0) := blk_at HQ2.out 0 rfl
                 have z0 : w1.frozen? ⟨g2, 0, none⟩ = false := blk_frozen HQ2.out 0
                 have y1 : w1.cell? ⟨g2, 1, none⟩ = some (.slice none 0 0) := blk_at HQ2.out 1 rfl
                 have z1 : w1.frozen? ⟨g2, 1, none⟩ = false := blk_frozen HQ2.out 1
                 have y2 : w1.cell? ⟨g2, 2, none⟩ = some (.slice none 0 0) := blk_at HQ2.out 2 rfl
                 have z2 : w1.frozen? ⟨g2, 2, none⟩ = false := blk_frozen HQ2.out 2
                 clear hb1)
    have hb4 : (((w1.setCell ⟨g2, 0, none⟩ (.int .i64 0)).setCell ⟨g2, 1, none⟩ (.slice none 0 0)).setCell ⟨g2, 2, none⟩ (.slice none 0 0)).heap[g2]? = some (.cells #[.int .i64 0, .slice none 0 0, .slice none 0 0] 27 (0, 0)) := blk_put (blk_put (blk_put HQ2.out 0 _ rfl) 1 _ rfl) 2 _ rfl
    have hb5 : Below w.heap.size w (((w1.setCell ⟨g2, 0, none⟩ (.int .i64 0)).setCell ⟨g2, 1, none⟩ (.slice none 0 0)).setCell ⟨g2, 2, none⟩ (.slice none 0 0)) := ((HW1.out.setCell HG2.out _).setCell HG2.out _).setCell HG2.out _
    refine bodyPost_ret (results_list (rs := [.cell 4 27, .tmp 5]) (vs := [.agg #[.int .i64 0, .slice none 0 0, .slice none 0 0], .int .i64 z]) rfl (by simp) (.cell g2 27 #[.int .i64 0, .slice none 0 0, .slice none 0 0] (0, 0) _ rfl hb4 Try.underlying27 rfl (by kernel_rfl) (.tmp .nil))) rfl ?_
    rw [HR.out]
    exact ⟨_, _, rfl, Lib.hid (Kd.R_nil _ _ _ _ _), Lib.hid (Kd.R_nil _ _ _ _ _), Lib.hid hb5⟩
  subst hz0
  go_upto_region 4 with (go_at_call 38; refine (HT16.out wa HW.out).mono ?_; rintro e w1 ⟨rfl, hb1⟩
                         have HW1 : Hid (Below w.heap.size w w1) := HW.out.trans (hb1.out.mono HW.out.size)
                         have Q0 := Lib.hid (blk_below H0.out hb1.out)
                         have Q1 := Lib.hid (blk_below H1.out hb1.out)
                         have Q2 := Lib.hid (blk_below H2.out hb1.out)
                         clear hb1)
  clear a0 a1 H0 H1 H2 HW HT16
  have b0 : w1.cell? ⟨g1, 0, none⟩ = some (.int .i64 dnum) := blk_at Q1.out 0 rfl
  have b1 : w1.cell? ⟨g1, 1, none⟩ = some (.slice B m cb) := blk_at Q1.out 1 rfl
  generalize hz : chkS dnum set = z at HT17
  have HZD := Lib.hid hz
  clear hz
  by_cases hz0 : z = 0
  rotate_left
  · have HR : Hid (diffP num cs dnum set = (0, [], [], z)) := Lib.hid (by unfold diffP; rw [HZ.out, if_neg (by simp), HZD.out, if_pos hz0])
    have k1 : (z == 0) = false := beq_false_of_ne hz0
    have k2 : (z != 0) = true := by simp [hz0]
    clear hz0
    go_wp2_with (go_at_call 38; refine (HT17.out w1 HW1.out).mono ?_; rintro e w2 ⟨rfl, hb1⟩
                 have HW2 : Hid (Below w.heap.size w w2) := HW1.out.trans (hb1.out.mono HW1.out.size)
                 have HQ2 := Lib.hid (blk_below Q2.out hb1.out)
                 have y0 : w2.cell? ⟨g2, 0, none⟩ = some (.int .i64 0) := blk_at HQ2.out 0 rfl
                 have z0 : w2.frozen? ⟨g2, 0, none⟩ = false := blk_frozen HQ2.out 0
                 have y1 : w2.cell? ⟨g2, 1, none⟩ = some (.slice none 0 0) := blk_at HQ2.out 1 rfl
                 have z1 : w2.frozen? ⟨g2, 1, none⟩ = false := blk_frozen HQ2.out 1
                 have y2 : w2.cell? ⟨g2, 2, none⟩ = some (.slice none 0 0) := blk_at HQ2.out 2 rfl
                 have z2 : w2.frozen? ⟨g2, 2, none⟩ = false := blk_frozen HQ2.out 2
                 clear hb1)
    have hb4 : (((w2.setCell ⟨g2, 0, none⟩ (.int .i64 0)).setCell ⟨g2, 1, none⟩ (.slice none 0 0)).setCell ⟨g2, 2, none⟩ (.slice none 0 0)).heap[g2]? = some (.cells #[.int .i64 0, .slice none 0 0, .slice none 0 0] 27 (0, 0)) := blk_put (blk_put (blk_put HQ2.out 0 _ rfl) 1 _ rfl) 2 _ rfl
    have hb5 : Below w.heap.size w (((w2.setCell ⟨g2, 0, none⟩ (.int .i64 0)).setCell ⟨g2, 1, none⟩ (.slice none 0 0)).setCell ⟨g2, 2, none⟩ (.slice none 0 0)) := ((HW2.out.setCell HG2.out _).setCell HG2.out _).setCell HG2.out _
    refine bodyPost_ret (results_list (rs := [.cell 4 27, .tmp 5]) (vs := [.agg #[.int .i64 0, .slice none 0 0, .slice none 0 0], .int .i64 z]) rfl (by simp) (.cell g2 27 #[.int .i64 0, .slice none 0 0, .slice none 0 0] (0, 0) _ rfl hb4 Try.underlying27 rfl (by kernel_rfl) (.tmp .nil))) rfl ?_
    rw [HR.out]
    exact ⟨_, _, rfl, Lib.hid (Kd.R_nil _ _ _ _ _), Lib.hid (Kd.R_nil _ _ _ _ _), Lib.hid hb5⟩
  subst hz0
  go_upto_region 7 with (go_at_call 38; refine (HT17.out w1 HW1.out).mono ?_; rintro e w2 ⟨rfl, hb1⟩
                         have HW2 : Hid (Below w.heap.size w w2) := HW1.out.trans (hb1.out.mono HW1.out.size)
                         have H0 := Lib.hid (blk_below Q0.out hb1.out)
                         have H1 := Lib.hid (blk_below Q1.out hb1.out)
                         have H2 := Lib.hid (blk_below Q2.out hb1.out)
                         clear hb1)
  clear b0 b1 Q0 Q1 Q2 HW1 HT17
  have HMB : Hid (diffP num cs dnum set = (dnum, refDCs cs set r, refDGs set r, 0)) := Lib.hid (refDiff_done HZ.out HZD.out HKR.out HKM.out)
  have HRA : Hid (Ris kC cs) := Lib.hid (chkS_ris HZ.out)
  have HRB : Hid (Ris kC set) := Lib.hid (chkS_ris HZD.out)
  have HVA := Lib.hid (HvA.out HZ.out)
  have HVB := Lib.hid (HvB.out HZD.out)
  clear HvA HvB
  clear HZ HZD
  have b0 : w2.cell? ⟨g1, 0, none⟩ = some (.int .i64 dnum) := blk_at H1.out 0 rfl
  have b1 : w2.cell? ⟨g1, 1, none⟩ = some (.slice B m cb) := blk_at H1.out 1 rfl
  have HTn : Hid ((w2.alloc (.cells #[.int .i64 dnum, .slice none 0 0, .slice none 0 0] 27)).heap[w2.heap.size]? = some (.cells #[.int .i64 dnum, .slice none 0 0, .slice none 0 0] 27 (0, 0))) := Lib.hid (blk_new w2 _)
  have HEa : Hid (g < w2.heap.size ∧ g1 < w2.heap.size ∧ g2 < w2.heap.size ∧ w.heap.size ≤ w2.heap.size) := Lib.hid ⟨blk_lt H0.out, blk_lt H1.out, blk_lt H2.out, HW2.out.size⟩
  replace H0 := Lib.hid (blk_alloc H0.out (.cells #[.int .i64 dnum, .slice none 0 0, .slice none 0 0] 27))
  have H1n := Lib.hid (blk_alloc H1.out (.cells #[.int .i64 dnum, .slice none 0 0, .slice none 0 0] 27))
  replace H2 := Lib.hid (blk_alloc H2.out (.cells #[.int .i64 dnum, .slice none 0 0, .slice none 0 0] 27))
  have HW3 : Hid (Below w.heap.size w (w2.alloc (.cells #[.int .i64 dnum, .slice none 0 0, .slice none 0 0] 27))) := Lib.hid (HW2.out.alloc HW2.out.size _)
  go_upto_region 8 with (fail)
  clear b0 b1
  obtain ⟨gt, hgt⟩ : ∃ q, q = w2.heap.size := ⟨_, rfl⟩
  rw [← hgt] at HTn HEa ⊢
  clear hgt H1 HW2
  generalize w2.alloc (.cells #[.int .i64 dnum, .slice none 0 0, .slice none 0 0] 27) = w3 at *
  have a0 : w3.cell? ⟨g, 0, none⟩ = some (.int .i64 num) := blk_at H0.out 0 rfl
  have a1 : w3.cell? ⟨g, 1, none⟩ = some (.slice A n ca) := blk_at H0.out 1 rfl
  have b0 : w3.cell? ⟨g1, 0, none⟩ = some (.int .i64 dnum) := blk_at H1n.out 0 rfl
  have b1 : w3.cell? ⟨g1, 1, none⟩ = some (.slice B m cb) := blk_at H1n.out 1 rfl
  go_upto_region 9 with (go_at_call 39; refine (HKC.out w3 HW3.out).mono ?_; rintro e w4 ⟨K, kc, rfl, hk, hb⟩
                         have M0 := Lib.hid (blk_below H0.out hb.out)
                         have M1 := Lib.hid (blk_below H1n.out hb.out)
                         have M2 := Lib.hid (blk_below H2.out hb.out)
                         have MT := Lib.hid (blk_below HTn.out hb.out)
                         have HB4 : Hid (Below w.heap.size w w4) := HW3.out.trans (hb.out.mono HW3.out.size)
                         have HKy := Lib.hid (Kd.R_lower (Kd.R_mono (Kd.R_bound hk.out) (fun q hq => hq.2.2.1)) (Nat.zero_le _))
                         clear hk hb a0 a1 b0 b1)
  have HE : Hid (g < w4.heap.size ∧ g1 < w4.heap.size ∧ g2 < w4.heap.size ∧ gt < w4.heap.size ∧ w.heap.size ≤ w4.heap.size ∧ g ≠ gt ∧ g1 ≠ gt ∧ g2 ≠ gt ∧ w.heap.size ≤ gt) := Lib.hid ⟨blk_lt M0.out, blk_lt M1.out, blk_lt M2.out, blk_lt MT.out, HB4.out.size, Nat.ne_of_lt HEa.out.1, Nat.ne_of_lt HEa.out.2.1, Nat.ne_of_lt HEa.out.2.2.1, HEa.out.2.2.2⟩
  have HS4 : Hid (w4.heap.size ≤ w4.heap.size) := Lib.hid (Nat.le_refl _)
  obtain ⟨L, hL⟩ : ∃ L, w4.heap.size = L := ⟨_, rfl⟩
  rw [hL] at HE HKy
  replace HS4 : Hid (L ≤ w4.heap.size) := Lib.hid (Nat.le_of_eq hL.symm)
  clear hL HEa
  obtain ⟨nr, hnr0⟩ : ∃ n, n = r.length := ⟨_, rfl⟩
  rw [← hnr0] at HKy hnr ⊢
  have Hnr := Lib.hid hnr0
  clear hnr0 H0 H1n H2 HTn HW3 HKC
  have HO0 : Hid (Kd.R k63 63 w4 L (fun _ => True) (.slice none 0 0) (refDCs cs set (r.take 0))) := Lib.hid (by rw [List.take_zero]; exact Kd.R_nil _ _ _ _ _)
  have HG0 : Hid (Kd.R Kd.string 9 w4 L (fun _ => True) (.slice none 0 0) (refDGs set (r.take 0))) := Lib.hid (by rw [List.take_zero]; exact Kd.R_nil _ _ _ _ _)
  go_wp2_with (fail)
  go_loopw [9, 10, 11, 12, 13] (fun v9 _ _ _ _ wr => ∃ k : Nat, k ≤ nr ∧ v9 = .int .i64 k ∧ Hid (wr.heap[g]? = some (.cells #[.int .i64 num, .slice A n ca] 24 (0, 0))) ∧ Hid (wr.heap[g1]? = some (.cells #[.int .i64 dnum, .slice B m cb] 24 (0, 0))) ∧ Hid (wr.heap[g2]? = some (.cells #[.int .i64 0, .slice none 0 0, .slice none 0 0] 27 (0, 0))) ∧ (∃ va vb, Hid (wr.heap[gt]? = some (.cells #[.int .i64 dnum, va, vb] 27 (0, 0))) ∧ Hid (Kd.R k63 63 wr L (fun _ => True) va (refDCs cs set (r.take k))) ∧ Hid (Kd.R Kd.string 9 wr L (fun _ => True) vb (refDGs set (r.take k)))) ∧ Hid (Kd.R Kd.string 9 wr 0 (fun q => q < L) (.slice K nr kc) r) ∧ Hid (Below w.heap.size w wr) ∧ Hid (L ≤ wr.heap.size)) (fun v9 _ _ _ _ _ => nr - (intOf v9).toNat)
  case atStart => exact ⟨0, Nat.zero_le _, rfl, M0, M1, M2, ⟨_, _, MT, HO0, HG0⟩, HKy, HB4, HS4⟩
  case round =>
    clear M0 M1 M2 MT HO0 HG0 HKy HB4 HS4
    obtain ⟨k, hk, rfl, H0, H1, H2, ⟨va, vb, HT, HO, HGo⟩, HKy, HBk, HSz⟩ := hrel
    obtain ⟨Ao, mo, co, rfl⟩ := R_slR HO.out
    obtain ⟨Ab, mb, cb2, rfl⟩ := R_slR HGo.out
    by_cases hlt : k < nr
    · have hEK : ∃ ad, K = some ad ∧ ∀ W, Hid (Kd.R Kd.string 9 W 0 (fun q => q < L) (.slice K nr kc) r) → W.cell? (ad.add k) = some (.string (r.getD k ⟨#[]⟩)) := by
        obtain ⟨ad, hA3, e0⟩ := at_str (Kd.R_reads' HKy.out).2.2 k (by rw [← Hnr.out]; exact hlt)
        refine ⟨ad, hA3, fun W h => ?_⟩
        obtain ⟨ad2, hA4, e1⟩ := at_str (Kd.R_reads' h.out).2.2 k (by rw [← Hnr.out]; exact hlt)
        rw [hA3] at hA4
        injection hA4 with hA4
        rw [hA4]
        exact e1
      obtain ⟨ad, hA3, hEK⟩ := hEK
      have htk := take_succ_getD r ⟨#[]⟩ k (by rw [← Hnr.out]; exact hlt)
      have hmem : r.getD k ⟨#[]⟩ ∈ r := getD_mem _ _ _ (by rw [← Hnr.out]; exact hlt)
      generalize r.getD k ⟨#[]⟩ = u at *
      have HTK := Lib.hid htk
      have HUM := Lib.hid ((HKM.out u).1 hmem)
      clear htk hmem
      subst hA3
      have EK := Lib.hid hEK
      have e0 := hEK wr HKy
      clear hEK
      have HA1 := Lib.hid (atP_has cs u)
      have HA2 := Lib.hid (atP_has set u)
      obtain ⟨lk, hlk⟩ : ∃ lk, lk = refDCs cs set (r.take k) := ⟨_, rfl⟩
      have Hlk : Hid (refDCs cs set (r.take k) = lk) := Lib.hid hlk.symm
      have HLen : Hid (lk.length ≤ 1000000) := Lib.hid (by rw [hlk]; have := refDCs_le cs set (r.take k); have := List.length_take_le k r; have := hnr; omega)
      obtain ⟨lg, hlg⟩ : ∃ lg, lg = refDGs set (r.take k) := ⟨_, rfl⟩
      have Hlg : Hid (refDGs set (r.take k) = lg) := Lib.hid hlg.symm
      have HLeg : Hid (lg.length ≤ 1000000) := Lib.hid (by rw [hlg]; have := refDGs_le set (r.take k); have := List.length_take_le k r; have := hnr; omega)
      rw [← hlk] at HO
      rw [← hlg] at HGo
      clear hlk hlg
      obtain ⟨wq, hwq⟩ : ∃ q, q = wr.heap.size := ⟨_, rfl⟩
      have HOlt : Hid (∀ q, (Value.slice Ao mo co).ownBlock = some q → q < wq) := Lib.hid (by rw [hwq]; exact Kd.R_lt HO.out)
      have HLw : Hid (L ≤ wq) := Lib.hid (by rw [hwq]; exact HSz.out)
      have HWr : Hid (wq ≤ wr.heap.size) := Lib.hid (Nat.le_of_eq hwq)
      have HFw : Hid (Below wr.heap.size wr wr) := Lib.hid (Below.refl _ _)
      have i0 : (0 : Int) ≤ (k : Int) := by omega
      have i1 : (k : Int) < (nr : Int) := by omega
      have E0 : Hid (∀ W, Below wr.heap.size wr W → W.cell? (ad.add k) = some (.string u)) := Lib.hid (fun W h => pw_cell_below h e0)
      clear hwq e0
      have t1 : wr.cell? ⟨g, 1, none⟩ = some (.slice A n ca) := blk_at H0.out 1 rfl
      have e0 : wr.cell? (ad.add k) = some (.string u) := E0.out _ HFw.out
      go_upto_region 12 with (fail)
      go_cut [10, 11] (fun va vb wx => ∃ nb A5 c5, va = .pointer (some ⟨nb, 0, none⟩) ∧ vb = .bool (atP cs u).2.2 ∧ Hid (wx.heap[nb]? = some (.cells #[.string (atP cs u).1, .slice A5 (atP cs u).2.1.length c5] 63 (0, 0))) ∧ Hid (Kd.R k87 87 wx wq (fun _ => True) (.slice A5 (atP cs u).2.1.length c5) (atP cs u).2.1) ∧ Hid (Below wr.heap.size wr wx))
      case first =>
        refine start_ (n := 13) (S := (fun w' => w'.cell? ⟨g, 1, none⟩ = some (.slice A n ca) ∧ w'.cell? (ad.add k) = some (.string u))) (ds := [11]) #[false, false, false, false, false, false, false, false, false, false, false, false, false] (by kernel_rfl) rfl rfl ⟨t1, e0⟩ (fun hHeld => ?_)
        have HV0 : Hid (Below wr.heap.size wr wr.drew) := (Below.refl _ _).drew
        generalize wr.drew = V0 at hHeld HV0  ⊢
        refine pure_ (i := 0) (N := some 41) (v := ?_) (a' := ?_) #[true, false, false, false, false, false, false, false, false, false, false, false, false] rfl rfl (by kernel_rfl) (fun _ _ _ h => h) (Or.inl ⟨by rfl, ?_⟩) ?_ ?_
        rotate_left
        · intro w'
          go_simp
          with_reducible rfl
        rotate_left
        · go_simp
          rfl
        refine take_ (i := 1) (N := some 42) (v := ?_) (a' := ?_) #[true, true, false, false, false, false, false, false, false, false, false, false, false] rfl rfl (by kernel_rfl) (fun _ _ _ h => h) (Or.inl ⟨by rfl, ?_⟩) hHeld ?_ ?_
        rotate_left
        · rintro w' ⟨s0, s1⟩
          go_simp
          with_reducible rfl
        rotate_left
        · go_simp
          rfl
        refine pure_ (i := 2) (N := some 43) (v := ?_) (a' := ?_) #[true, true, true, false, false, false, false, false, false, false, false, false, false] rfl rfl (by kernel_rfl) (fun _ _ _ h => h) (Or.inl ⟨by rfl, ?_⟩) ?_ ?_
        rotate_left
        · intro w'
          go_simp
          with_reducible rfl
        rotate_left
        · go_simp
          rfl
        refine pure_ (i := 3) (N := some 44) (v := ?_) (a' := ?_) #[true, true, true, true, false, false, false, false, false, false, false, false, false] rfl rfl (by kernel_rfl) (fun _ _ _ h => h) (Or.inl ⟨by rfl, ?_⟩) ?_ ?_
        rotate_left
        · intro w'
          go_simp
          with_reducible rfl
        rotate_left
        · go_simp
          rfl
        refine pure_ (i := 4) (N := some 45) (v := ?_) (a' := ?_) #[true, true, true, true, true, false, false, false, false, false, false, false, false] rfl rfl (by kernel_rfl) (fun _ _ _ h => h) (Or.inl ⟨by rfl, ?_⟩) ?_ ?_
        rotate_left
        · intro w'
          go_simp
          with_reducible rfl
        rotate_left
        · go_simp
          rfl
        refine take_ (i := 5) (N := some 46) (v := ?_) (a' := ?_) #[true, true, true, true, true, true, false, false, false, false, false, false, false] rfl rfl (by kernel_rfl) (fun _ _ _ h => h) (Or.inl ⟨by rfl, ?_⟩) hHeld ?_ ?_
        rotate_left
        · rintro w' ⟨s0, s1⟩
          go_simp
          with_reducible rfl
        rotate_left
        · go_simp
          rfl
        refine two_ (i := 6) (j := 10) (Ni := some 47) (Nj := some 10) #[true, true, true, true, true, true, true, false, false, false, false, false, false] #[true, true, true, true, true, true, false, false, false, false, true, false, false] rfl rfl rfl rfl (by kernel_rfl) (by decide) (by decide) (fun K hK => ?_) (fun K hK => ?_)
        · refine goes_ Try.func40 (by kernel_rfl) rfl #[.slice A n ca, .string u] (by rfl) rfl rfl (by simp only [List.map_toArray, List.map_cons, List.map_nil]; rfl) ?_
          refine ((HAA.out V0 u (HBk.out.trans (HV0.out.mono HBk.out.size)))).mono ?_
          rintro e' V1 ⟨A5, c5, rfl, R5, hb⟩
          refine ⟨_, rfl, ?_⟩
          have HV1 : Hid (Below wr.heap.size wr V1) := HV0.out.trans (hb.out.mono HV0.out.size)
          replace R5 := Lib.hid (Kd.R_lower R5.out (Nat.le_trans HWr.out HV0.out.size))
          refine hK.out _ _ ⟨pw_cell_below hb.out hHeld.1, pw_cell_below hb.out hHeld.2⟩ (fun hHeld => ?_)
          clear hK K hb
          refine norm_ (a' := ?_) ?_ ?_
          rotate_left
          · show Act.put _ (some 47) _ = _
            go_simp
            rfl
          refine pure_ (i := 7) (N := some 40) (v := ?_) (a' := ?_) #[true, true, true, true, true, true, true, true, false, false, false, false, false] rfl rfl (by kernel_rfl) (fun _ _ _ h => h) (Or.inl ⟨by rfl, ?_⟩) ?_ ?_
          rotate_left
          · intro w'
            go_simp
            with_reducible rfl
          rotate_left
          · go_simp
            rfl
          refine pure_ (i := 8) (N := some 48) (v := ?_) (a' := ?_) #[true, true, true, true, true, true, true, true, true, false, false, false, false] rfl rfl (by kernel_rfl) (fun _ _ _ h => h) (Or.inl ⟨by rfl, ?_⟩) ?_ ?_
          rotate_left
          · intro w'
            go_simp
            with_reducible rfl
          rotate_left
          · go_simp
            rfl
          refine pure_ (i := 9) (N := some 49) (v := ?_) (a' := ?_) #[true, true, true, true, true, true, true, true, true, true, false, false, false] rfl rfl (by kernel_rfl) (fun _ _ _ h => h) (Or.inl ⟨by rfl, ?_⟩) ?_ ?_
          rotate_left
          · intro w'
            go_simp
            with_reducible rfl
          rotate_left
          · go_simp
            rfl
          refine one_ (i := 10) (N := some 10) #[true, true, true, true, true, true, true, true, true, true, true, false, false] rfl rfl (by kernel_rfl) (by decide) (fun K hK => ?_)
          obtain ⟨nb, hnb⟩ : ∃ nb, nb = V1.heap.size := ⟨_, rfl⟩
          refine value_ (w1 := (V1.alloc (.cells #[.string ⟨#[]⟩, .slice none 0 0] 63))) (v := .pointer (some ⟨nb, 0, none⟩)) (by rfl) rfl (by rw [hnb]; go_simp) ?_
          have hal : Hid (Below V1.heap.size V1 (V1.alloc (.cells #[.string ⟨#[]⟩, .slice none 0 0] 63))) := Lib.hid ((Below.refl _ _).alloc (Nat.le_refl _) _)
          have HN9 : Hid ((V1.alloc (.cells #[.string ⟨#[]⟩, .slice none 0 0] 63)).heap[nb]? = some (.cells #[.string ⟨#[]⟩, .slice none 0 0] 63 (0, 0))) := by rw [hnb]; exact Lib.hid (blk_new _ _)
          have hnb9 : Hid (wr.heap.size ≤ nb) := by rw [hnb]; exact Lib.hid HV1.out.size
          refine hK.out _ _ ⟨pw_cell_below hal.out hHeld.1, pw_cell_below hal.out hHeld.2⟩ (fun hHeld => ?_)
          clear hK K hnb
          generalize (V1.alloc (.cells #[.string ⟨#[]⟩, .slice none 0 0] 63)) = V2 at hHeld hal HN9 ⊢
          replace R5 := Lib.hid (Kd.R_below R5.out hal.out)
          have HV2 : Hid (Below wr.heap.size wr V2) := HV1.out.trans (hal.out.mono HV1.out.size)
          clear hal
          refine norm_ (a' := ?_) ?_ ?_
          rotate_left
          · show Act.put _ (some 10) _ = _
            go_simp
            rfl
          refine last_ (i := 11) (N := none) #[true, true, true, true, true, true, true, true, true, true, true, true, false] rfl rfl (by kernel_rfl) (by decide) (fun K hK => ?_)
          have x0 : V2.cell? ⟨nb, 0, none⟩ = some (.string ⟨#[]⟩) := blk_at HN9.out 0 rfl
          have z0 : V2.frozen? ⟨nb, 0, none⟩ = false := blk_frozen HN9.out 0
          have x1 : V2.cell? ⟨nb, 1, none⟩ = some (.slice none 0 0) := blk_at HN9.out 1 rfl
          have z1 : V2.frozen? ⟨nb, 1, none⟩ = false := blk_frozen HN9.out 1
          refine skip_ (w1 := ((V2.setCell ⟨nb, 0, none⟩ (.string (atP cs u).1)).setCell ⟨nb, 1, none⟩ (.slice A5 (atP cs u).2.1.length c5))) (by rfl) rfl (by go_simp) ?_
          refine hK.out _ _ ?_
          have R5' := Lib.hid (Kd.R_set (Kd.R_set R5.out HN9.out (by decide) 0 (.string (atP cs u).1)) (blk_put HN9.out 0 (.string (atP cs u).1) rfl) (by decide) 1 (.slice A5 (atP cs u).2.1.length c5))
          have HN9' := Lib.hid (blk_put (blk_put HN9.out 0 (.string (atP cs u).1) rfl) 1 (.slice A5 (atP cs u).2.1.length c5) rfl)
          have HB9 : Hid (Below wr.heap.size wr ((V2.setCell ⟨nb, 0, none⟩ (.string (atP cs u).1)).setCell ⟨nb, 1, none⟩ (.slice A5 (atP cs u).2.1.length c5))) := Lib.hid ((HV2.out.setCell (p := ⟨nb, 0, none⟩) hnb9.out _).setCell (p := ⟨nb, 1, none⟩) hnb9.out _)
          clear hK K hHeld x0 z0 x1 z1 R5 HN9 HV0 HV1 HV2
          generalize ((V2.setCell ⟨nb, 0, none⟩ (.string (atP cs u).1)).setCell ⟨nb, 1, none⟩ (.slice A5 (atP cs u).2.1.length c5)) = W9 at *
          refine pure_ (i := 12) (N := some 11) (v := ?_) (a' := ?_) #[true, true, true, true, true, true, true, true, true, true, true, true, true] rfl rfl (by kernel_rfl) (fun _ _ _ h => h) (Or.inl ⟨by rfl, ?_⟩) ?_ ?_
          rotate_left
          · intro w'
            go_simp
            with_reducible rfl
          rotate_left
          · go_simp
            rfl
          refine done_ (by kernel_rfl) ?_
          go_wp2_with (fail)
          go_meet
          exact ⟨nb, A5, c5, rfl, rfl, HN9', R5', HB9⟩
        · obtain ⟨nb, hnb⟩ : ∃ nb, nb = V0.heap.size := ⟨_, rfl⟩
          refine value_ (w1 := (V0.alloc (.cells #[.string ⟨#[]⟩, .slice none 0 0] 63))) (v := .pointer (some ⟨nb, 0, none⟩)) (by rfl) rfl (by rw [hnb]; go_simp) ?_
          have hal : Hid (Below V0.heap.size V0 (V0.alloc (.cells #[.string ⟨#[]⟩, .slice none 0 0] 63))) := Lib.hid ((Below.refl _ _).alloc (Nat.le_refl _) _)
          have HN9 : Hid ((V0.alloc (.cells #[.string ⟨#[]⟩, .slice none 0 0] 63)).heap[nb]? = some (.cells #[.string ⟨#[]⟩, .slice none 0 0] 63 (0, 0))) := by rw [hnb]; exact Lib.hid (blk_new _ _)
          have hnb9 : Hid (wr.heap.size ≤ nb) := by rw [hnb]; exact Lib.hid HV0.out.size
          refine hK.out _ _ ⟨pw_cell_below hal.out hHeld.1, pw_cell_below hal.out hHeld.2⟩ (fun hHeld => ?_)
          clear hK K hnb
          generalize (V0.alloc (.cells #[.string ⟨#[]⟩, .slice none 0 0] 63)) = V1 at hHeld hal HN9 ⊢
          have HV1 : Hid (Below wr.heap.size wr V1) := HV0.out.trans (hal.out.mono HV0.out.size)
          clear hal
          refine norm_ (a' := ?_) ?_ ?_
          rotate_left
          · show Act.put _ (some 10) _ = _
            go_simp
            rfl
          refine one_ (i := 6) (N := some 47) #[true, true, true, true, true, true, true, false, false, false, true, false, false] rfl rfl (by kernel_rfl) (by decide) (fun K hK => ?_)
          refine goes_ Try.func40 (by kernel_rfl) rfl #[.slice A n ca, .string u] (by rfl) rfl rfl (by simp only [List.map_toArray, List.map_cons, List.map_nil]; rfl) ?_
          refine ((HAA.out V1 u (HBk.out.trans (HV1.out.mono HBk.out.size)))).mono ?_
          rintro e' V2 ⟨A5, c5, rfl, R5, hb⟩
          refine ⟨_, rfl, ?_⟩
          replace HN9 := Lib.hid (blk_below HN9.out hb.out)
          have HV2 : Hid (Below wr.heap.size wr V2) := HV1.out.trans (hb.out.mono HV1.out.size)
          replace R5 := Lib.hid (Kd.R_lower R5.out (Nat.le_trans HWr.out HV1.out.size))
          refine hK.out _ _ ⟨pw_cell_below hb.out hHeld.1, pw_cell_below hb.out hHeld.2⟩ (fun hHeld => ?_)
          clear hK K hb
          refine norm_ (a' := ?_) ?_ ?_
          rotate_left
          · show Act.put _ (some 47) _ = _
            go_simp
            rfl
          refine pure_ (i := 7) (N := some 40) (v := ?_) (a' := ?_) #[true, true, true, true, true, true, true, true, false, false, true, false, false] rfl rfl (by kernel_rfl) (fun _ _ _ h => h) (Or.inl ⟨by rfl, ?_⟩) ?_ ?_
          rotate_left
          · intro w'
            go_simp
            with_reducible rfl
          rotate_left
          · go_simp
            rfl
          refine pure_ (i := 8) (N := some 48) (v := ?_) (a' := ?_) #[true, true, true, true, true, true, true, true, true, false, true, false, false] rfl rfl (by kernel_rfl) (fun _ _ _ h => h) (Or.inl ⟨by rfl, ?_⟩) ?_ ?_
          rotate_left
          · intro w'
            go_simp
            with_reducible rfl
          rotate_left
          · go_simp
            rfl
          refine pure_ (i := 9) (N := some 49) (v := ?_) (a' := ?_) #[true, true, true, true, true, true, true, true, true, true, true, false, false] rfl rfl (by kernel_rfl) (fun _ _ _ h => h) (Or.inl ⟨by rfl, ?_⟩) ?_ ?_
          rotate_left
          · intro w'
            go_simp
            with_reducible rfl
          rotate_left
          · go_simp
            rfl
          refine last_ (i := 11) (N := none) #[true, true, true, true, true, true, true, true, true, true, true, true, false] rfl rfl (by kernel_rfl) (by decide) (fun K hK => ?_)
          have x0 : V2.cell? ⟨nb, 0, none⟩ = some (.string ⟨#[]⟩) := blk_at HN9.out 0 rfl
          have z0 : V2.frozen? ⟨nb, 0, none⟩ = false := blk_frozen HN9.out 0
          have x1 : V2.cell? ⟨nb, 1, none⟩ = some (.slice none 0 0) := blk_at HN9.out 1 rfl
          have z1 : V2.frozen? ⟨nb, 1, none⟩ = false := blk_frozen HN9.out 1
          refine skip_ (w1 := ((V2.setCell ⟨nb, 0, none⟩ (.string (atP cs u).1)).setCell ⟨nb, 1, none⟩ (.slice A5 (atP cs u).2.1.length c5))) (by rfl) rfl (by go_simp) ?_
          refine hK.out _ _ ?_
          have R5' := Lib.hid (Kd.R_set (Kd.R_set R5.out HN9.out (by decide) 0 (.string (atP cs u).1)) (blk_put HN9.out 0 (.string (atP cs u).1) rfl) (by decide) 1 (.slice A5 (atP cs u).2.1.length c5))
          have HN9' := Lib.hid (blk_put (blk_put HN9.out 0 (.string (atP cs u).1) rfl) 1 (.slice A5 (atP cs u).2.1.length c5) rfl)
          have HB9 : Hid (Below wr.heap.size wr ((V2.setCell ⟨nb, 0, none⟩ (.string (atP cs u).1)).setCell ⟨nb, 1, none⟩ (.slice A5 (atP cs u).2.1.length c5))) := Lib.hid ((HV2.out.setCell (p := ⟨nb, 0, none⟩) hnb9.out _).setCell (p := ⟨nb, 1, none⟩) hnb9.out _)
          clear hK K hHeld x0 z0 x1 z1 R5 HN9 HV0 HV1 HV2
          generalize ((V2.setCell ⟨nb, 0, none⟩ (.string (atP cs u).1)).setCell ⟨nb, 1, none⟩ (.slice A5 (atP cs u).2.1.length c5)) = W9 at *
          refine pure_ (i := 12) (N := some 11) (v := ?_) (a' := ?_) #[true, true, true, true, true, true, true, true, true, true, true, true, true] rfl rfl (by kernel_rfl) (fun _ _ _ h => h) (Or.inl ⟨by rfl, ?_⟩) ?_ ?_
          rotate_left
          · intro w'
            go_simp
            with_reducible rfl
          rotate_left
          · go_simp
            rfl
          refine done_ (by kernel_rfl) ?_
          go_wp2_with (fail)
          go_meet
          exact ⟨nb, A5, c5, rfl, rfl, HN9', R5', HB9⟩
      case rest =>
      obtain ⟨nb1, A5, c5, rfl, rfl, HNX, RX, HB9⟩ := hcut
      obtain ⟨wx1, hwn⟩ : ∃ W, W = wc := ⟨_, rfl⟩
      rw [← hwn] at HNX RX HB9 ⊢
      clear hwn t1 e0
      replace H0 := Lib.hid (blk_below H0.out HB9.out)
      replace H1 := Lib.hid (blk_below H1.out HB9.out)
      replace H2 := Lib.hid (blk_below H2.out HB9.out)
      replace HT := Lib.hid (blk_below HT.out HB9.out)
      replace HO := Lib.hid (Kd.R_below HO.out HB9.out)
      replace HGo := Lib.hid (Kd.R_below HGo.out HB9.out)
      replace HKy := Lib.hid (Kd.R_below HKy.out HB9.out)
      replace HBk := Lib.hid (HBk.out.trans (HB9.out.mono HBk.out.size))
      replace HFw := Lib.hid (HFw.out.trans (HB9.out.mono HFw.out.size))
      replace HSz := Lib.hid (Nat.le_trans HSz.out HB9.out.size)
      replace HWr := Lib.hid (Nat.le_trans HWr.out HB9.out.size)
      clear HB9
      have t1 : wx1.cell? ⟨g1, 1, none⟩ = some (.slice B m cb) := blk_at H1.out 1 rfl
      have e0 : wx1.cell? (ad.add k) = some (.string u) := E0.out _ HFw.out
      go_upto_region 13 with (fail)
      go_cut [12, 13] (fun va vb wx => ∃ nb A6 c6, va = .pointer (some ⟨nb, 0, none⟩) ∧ vb = .bool (atP set u).2.2 ∧ Hid (wx.heap[nb]? = some (.cells #[.string (atP set u).1, .slice A6 (atP set u).2.1.length c6] 63 (0, 0))) ∧ Hid (Kd.R k87 87 wx wq (fun _ => True) (.slice A6 (atP set u).2.1.length c6) (atP set u).2.1) ∧ Hid (Below wx1.heap.size wx1 wx))
      case first =>
        refine start_ (n := 13) (S := (fun w' => w'.cell? ⟨g1, 1, none⟩ = some (.slice B m cb) ∧ w'.cell? (ad.add k) = some (.string u))) (ds := [11]) #[false, false, false, false, false, false, false, false, false, false, false, false, false] (by kernel_rfl) rfl rfl ⟨t1, e0⟩ (fun hHeld => ?_)
        have HV0 : Hid (Below wx1.heap.size wx1 wx1.drew) := (Below.refl _ _).drew
        generalize wx1.drew = V0 at hHeld HV0  ⊢
        refine pure_ (i := 0) (N := some 51) (v := ?_) (a' := ?_) #[true, false, false, false, false, false, false, false, false, false, false, false, false] rfl rfl (by kernel_rfl) (fun _ _ _ h => h) (Or.inl ⟨by rfl, ?_⟩) ?_ ?_
        rotate_left
        · intro w'
          go_simp
          with_reducible rfl
        rotate_left
        · go_simp
          rfl
        refine take_ (i := 1) (N := some 52) (v := ?_) (a' := ?_) #[true, true, false, false, false, false, false, false, false, false, false, false, false] rfl rfl (by kernel_rfl) (fun _ _ _ h => h) (Or.inl ⟨by rfl, ?_⟩) hHeld ?_ ?_
        rotate_left
        · rintro w' ⟨s0, s1⟩
          go_simp
          with_reducible rfl
        rotate_left
        · go_simp
          rfl
        refine pure_ (i := 2) (N := some 53) (v := ?_) (a' := ?_) #[true, true, true, false, false, false, false, false, false, false, false, false, false] rfl rfl (by kernel_rfl) (fun _ _ _ h => h) (Or.inl ⟨by rfl, ?_⟩) ?_ ?_
        rotate_left
        · intro w'
          go_simp
          with_reducible rfl
        rotate_left
        · go_simp
          rfl
        refine pure_ (i := 3) (N := some 54) (v := ?_) (a' := ?_) #[true, true, true, true, false, false, false, false, false, false, false, false, false] rfl rfl (by kernel_rfl) (fun _ _ _ h => h) (Or.inl ⟨by rfl, ?_⟩) ?_ ?_
        rotate_left
        · intro w'
          go_simp
          with_reducible rfl
        rotate_left
        · go_simp
          rfl
        refine pure_ (i := 4) (N := some 55) (v := ?_) (a' := ?_) #[true, true, true, true, true, false, false, false, false, false, false, false, false] rfl rfl (by kernel_rfl) (fun _ _ _ h => h) (Or.inl ⟨by rfl, ?_⟩) ?_ ?_
        rotate_left
        · intro w'
          go_simp
          with_reducible rfl
        rotate_left
        · go_simp
          rfl
        refine take_ (i := 5) (N := some 56) (v := ?_) (a' := ?_) #[true, true, true, true, true, true, false, false, false, false, false, false, false] rfl rfl (by kernel_rfl) (fun _ _ _ h => h) (Or.inl ⟨by rfl, ?_⟩) hHeld ?_ ?_
        rotate_left
        · rintro w' ⟨s0, s1⟩
          go_simp
          with_reducible rfl
        rotate_left
        · go_simp
          rfl
        refine two_ (i := 6) (j := 10) (Ni := some 57) (Nj := some 12) #[true, true, true, true, true, true, true, false, false, false, false, false, false] #[true, true, true, true, true, true, false, false, false, false, true, false, false] rfl rfl rfl rfl (by kernel_rfl) (by decide) (by decide) (fun K hK => ?_) (fun K hK => ?_)
        · refine goes_ Try.func40 (by kernel_rfl) rfl #[.slice B m cb, .string u] (by rfl) rfl rfl (by simp only [List.map_toArray, List.map_cons, List.map_nil]; rfl) ?_
          refine ((HAB.out V0 u (HBk.out.trans (HV0.out.mono HBk.out.size)))).mono ?_
          rintro e' V1 ⟨A6, c6, rfl, R5, hb⟩
          refine ⟨_, rfl, ?_⟩
          have HV1 : Hid (Below wx1.heap.size wx1 V1) := HV0.out.trans (hb.out.mono HV0.out.size)
          replace R5 := Lib.hid (Kd.R_lower R5.out (Nat.le_trans HWr.out HV0.out.size))
          refine hK.out _ _ ⟨pw_cell_below hb.out hHeld.1, pw_cell_below hb.out hHeld.2⟩ (fun hHeld => ?_)
          clear hK K hb
          refine norm_ (a' := ?_) ?_ ?_
          rotate_left
          · show Act.put _ (some 57) _ = _
            go_simp
            rfl
          refine pure_ (i := 7) (N := some 50) (v := ?_) (a' := ?_) #[true, true, true, true, true, true, true, true, false, false, false, false, false] rfl rfl (by kernel_rfl) (fun _ _ _ h => h) (Or.inl ⟨by rfl, ?_⟩) ?_ ?_
          rotate_left
          · intro w'
            go_simp
            with_reducible rfl
          rotate_left
          · go_simp
            rfl
          refine pure_ (i := 8) (N := some 58) (v := ?_) (a' := ?_) #[true, true, true, true, true, true, true, true, true, false, false, false, false] rfl rfl (by kernel_rfl) (fun _ _ _ h => h) (Or.inl ⟨by rfl, ?_⟩) ?_ ?_
          rotate_left
          · intro w'
            go_simp
            with_reducible rfl
          rotate_left
          · go_simp
            rfl
          refine pure_ (i := 9) (N := some 59) (v := ?_) (a' := ?_) #[true, true, true, true, true, true, true, true, true, true, false, false, false] rfl rfl (by kernel_rfl) (fun _ _ _ h => h) (Or.inl ⟨by rfl, ?_⟩) ?_ ?_
          rotate_left
          · intro w'
            go_simp
            with_reducible rfl
          rotate_left
          · go_simp
            rfl
          refine one_ (i := 10) (N := some 12) #[true, true, true, true, true, true, true, true, true, true, true, false, false] rfl rfl (by kernel_rfl) (by decide) (fun K hK => ?_)
          obtain ⟨nb, hnb⟩ : ∃ nb, nb = V1.heap.size := ⟨_, rfl⟩
          refine value_ (w1 := (V1.alloc (.cells #[.string ⟨#[]⟩, .slice none 0 0] 63))) (v := .pointer (some ⟨nb, 0, none⟩)) (by rfl) rfl (by rw [hnb]; go_simp) ?_
          have hal : Hid (Below V1.heap.size V1 (V1.alloc (.cells #[.string ⟨#[]⟩, .slice none 0 0] 63))) := Lib.hid ((Below.refl _ _).alloc (Nat.le_refl _) _)
          have HN9 : Hid ((V1.alloc (.cells #[.string ⟨#[]⟩, .slice none 0 0] 63)).heap[nb]? = some (.cells #[.string ⟨#[]⟩, .slice none 0 0] 63 (0, 0))) := by rw [hnb]; exact Lib.hid (blk_new _ _)
          have hnb9 : Hid (wx1.heap.size ≤ nb) := by rw [hnb]; exact Lib.hid HV1.out.size
          refine hK.out _ _ ⟨pw_cell_below hal.out hHeld.1, pw_cell_below hal.out hHeld.2⟩ (fun hHeld => ?_)
          clear hK K hnb
          generalize (V1.alloc (.cells #[.string ⟨#[]⟩, .slice none 0 0] 63)) = V2 at hHeld hal HN9 ⊢
          replace R5 := Lib.hid (Kd.R_below R5.out hal.out)
          have HV2 : Hid (Below wx1.heap.size wx1 V2) := HV1.out.trans (hal.out.mono HV1.out.size)
          clear hal
          refine norm_ (a' := ?_) ?_ ?_
          rotate_left
          · show Act.put _ (some 12) _ = _
            go_simp
            rfl
          refine last_ (i := 11) (N := none) #[true, true, true, true, true, true, true, true, true, true, true, true, false] rfl rfl (by kernel_rfl) (by decide) (fun K hK => ?_)
          have x0 : V2.cell? ⟨nb, 0, none⟩ = some (.string ⟨#[]⟩) := blk_at HN9.out 0 rfl
          have z0 : V2.frozen? ⟨nb, 0, none⟩ = false := blk_frozen HN9.out 0
          have x1 : V2.cell? ⟨nb, 1, none⟩ = some (.slice none 0 0) := blk_at HN9.out 1 rfl
          have z1 : V2.frozen? ⟨nb, 1, none⟩ = false := blk_frozen HN9.out 1
          refine skip_ (w1 := ((V2.setCell ⟨nb, 0, none⟩ (.string (atP set u).1)).setCell ⟨nb, 1, none⟩ (.slice A6 (atP set u).2.1.length c6))) (by rfl) rfl (by go_simp) ?_
          refine hK.out _ _ ?_
          have R5' := Lib.hid (Kd.R_set (Kd.R_set R5.out HN9.out (by decide) 0 (.string (atP set u).1)) (blk_put HN9.out 0 (.string (atP set u).1) rfl) (by decide) 1 (.slice A6 (atP set u).2.1.length c6))
          have HN9' := Lib.hid (blk_put (blk_put HN9.out 0 (.string (atP set u).1) rfl) 1 (.slice A6 (atP set u).2.1.length c6) rfl)
          have HB9 : Hid (Below wx1.heap.size wx1 ((V2.setCell ⟨nb, 0, none⟩ (.string (atP set u).1)).setCell ⟨nb, 1, none⟩ (.slice A6 (atP set u).2.1.length c6))) := Lib.hid ((HV2.out.setCell (p := ⟨nb, 0, none⟩) hnb9.out _).setCell (p := ⟨nb, 1, none⟩) hnb9.out _)
          clear hK K hHeld x0 z0 x1 z1 R5 HN9 HV0 HV1 HV2
          generalize ((V2.setCell ⟨nb, 0, none⟩ (.string (atP set u).1)).setCell ⟨nb, 1, none⟩ (.slice A6 (atP set u).2.1.length c6)) = W9 at *
          refine pure_ (i := 12) (N := some 13) (v := ?_) (a' := ?_) #[true, true, true, true, true, true, true, true, true, true, true, true, true] rfl rfl (by kernel_rfl) (fun _ _ _ h => h) (Or.inl ⟨by rfl, ?_⟩) ?_ ?_
          rotate_left
          · intro w'
            go_simp
            with_reducible rfl
          rotate_left
          · go_simp
            rfl
          refine done_ (by kernel_rfl) ?_
          go_wp2_with (fail)
          go_meet
          exact ⟨nb, A6, c6, rfl, rfl, HN9', R5', HB9⟩
        · obtain ⟨nb, hnb⟩ : ∃ nb, nb = V0.heap.size := ⟨_, rfl⟩
          refine value_ (w1 := (V0.alloc (.cells #[.string ⟨#[]⟩, .slice none 0 0] 63))) (v := .pointer (some ⟨nb, 0, none⟩)) (by rfl) rfl (by rw [hnb]; go_simp) ?_
          have hal : Hid (Below V0.heap.size V0 (V0.alloc (.cells #[.string ⟨#[]⟩, .slice none 0 0] 63))) := Lib.hid ((Below.refl _ _).alloc (Nat.le_refl _) _)
          have HN9 : Hid ((V0.alloc (.cells #[.string ⟨#[]⟩, .slice none 0 0] 63)).heap[nb]? = some (.cells #[.string ⟨#[]⟩, .slice none 0 0] 63 (0, 0))) := by rw [hnb]; exact Lib.hid (blk_new _ _)
          have hnb9 : Hid (wx1.heap.size ≤ nb) := by rw [hnb]; exact Lib.hid HV0.out.size
          refine hK.out _ _ ⟨pw_cell_below hal.out hHeld.1, pw_cell_below hal.out hHeld.2⟩ (fun hHeld => ?_)
          clear hK K hnb
          generalize (V0.alloc (.cells #[.string ⟨#[]⟩, .slice none 0 0] 63)) = V1 at hHeld hal HN9 ⊢
          have HV1 : Hid (Below wx1.heap.size wx1 V1) := HV0.out.trans (hal.out.mono HV0.out.size)
          clear hal
          refine norm_ (a' := ?_) ?_ ?_
          rotate_left
          · show Act.put _ (some 12) _ = _
            go_simp
            rfl
          refine one_ (i := 6) (N := some 57) #[true, true, true, true, true, true, true, false, false, false, true, false, false] rfl rfl (by kernel_rfl) (by decide) (fun K hK => ?_)
          refine goes_ Try.func40 (by kernel_rfl) rfl #[.slice B m cb, .string u] (by rfl) rfl rfl (by simp only [List.map_toArray, List.map_cons, List.map_nil]; rfl) ?_
          refine ((HAB.out V1 u (HBk.out.trans (HV1.out.mono HBk.out.size)))).mono ?_
          rintro e' V2 ⟨A6, c6, rfl, R5, hb⟩
          refine ⟨_, rfl, ?_⟩
          replace HN9 := Lib.hid (blk_below HN9.out hb.out)
          have HV2 : Hid (Below wx1.heap.size wx1 V2) := HV1.out.trans (hb.out.mono HV1.out.size)
          replace R5 := Lib.hid (Kd.R_lower R5.out (Nat.le_trans HWr.out HV1.out.size))
          refine hK.out _ _ ⟨pw_cell_below hb.out hHeld.1, pw_cell_below hb.out hHeld.2⟩ (fun hHeld => ?_)
          clear hK K hb
          refine norm_ (a' := ?_) ?_ ?_
          rotate_left
          · show Act.put _ (some 57) _ = _
            go_simp
            rfl
          refine pure_ (i := 7) (N := some 50) (v := ?_) (a' := ?_) #[true, true, true, true, true, true, true, true, false, false, true, false, false] rfl rfl (by kernel_rfl) (fun _ _ _ h => h) (Or.inl ⟨by rfl, ?_⟩) ?_ ?_
          rotate_left
          · intro w'
            go_simp
            with_reducible rfl
          rotate_left
          · go_simp
            rfl
          refine pure_ (i := 8) (N := some 58) (v := ?_) (a' := ?_) #[true, true, true, true, true, true, true, true, true, false, true, false, false] rfl rfl (by kernel_rfl) (fun _ _ _ h => h) (Or.inl ⟨by rfl, ?_⟩) ?_ ?_
          rotate_left
          · intro w'
            go_simp
            with_reducible rfl
          rotate_left
          · go_simp
            rfl
          refine pure_ (i := 9) (N := some 59) (v := ?_) (a' := ?_) #[true, true, true, true, true, true, true, true, true, true, true, false, false] rfl rfl (by kernel_rfl) (fun _ _ _ h => h) (Or.inl ⟨by rfl, ?_⟩) ?_ ?_
          rotate_left
          · intro w'
            go_simp
            with_reducible rfl
          rotate_left
          · go_simp
            rfl
          refine last_ (i := 11) (N := none) #[true, true, true, true, true, true, true, true, true, true, true, true, false] rfl rfl (by kernel_rfl) (by decide) (fun K hK => ?_)
          have x0 : V2.cell? ⟨nb, 0, none⟩ = some (.string ⟨#[]⟩) := blk_at HN9.out 0 rfl
          have z0 : V2.frozen? ⟨nb, 0, none⟩ = false := blk_frozen HN9.out 0
          have x1 : V2.cell? ⟨nb, 1, none⟩ = some (.slice none 0 0) := blk_at HN9.out 1 rfl
          have z1 : V2.frozen? ⟨nb, 1, none⟩ = false := blk_frozen HN9.out 1
          refine skip_ (w1 := ((V2.setCell ⟨nb, 0, none⟩ (.string (atP set u).1)).setCell ⟨nb, 1, none⟩ (.slice A6 (atP set u).2.1.length c6))) (by rfl) rfl (by go_simp) ?_
          refine hK.out _ _ ?_
          have R5' := Lib.hid (Kd.R_set (Kd.R_set R5.out HN9.out (by decide) 0 (.string (atP set u).1)) (blk_put HN9.out 0 (.string (atP set u).1) rfl) (by decide) 1 (.slice A6 (atP set u).2.1.length c6))
          have HN9' := Lib.hid (blk_put (blk_put HN9.out 0 (.string (atP set u).1) rfl) 1 (.slice A6 (atP set u).2.1.length c6) rfl)
          have HB9 : Hid (Below wx1.heap.size wx1 ((V2.setCell ⟨nb, 0, none⟩ (.string (atP set u).1)).setCell ⟨nb, 1, none⟩ (.slice A6 (atP set u).2.1.length c6))) := Lib.hid ((HV2.out.setCell (p := ⟨nb, 0, none⟩) hnb9.out _).setCell (p := ⟨nb, 1, none⟩) hnb9.out _)
          clear hK K hHeld x0 z0 x1 z1 R5 HN9 HV0 HV1 HV2
          generalize ((V2.setCell ⟨nb, 0, none⟩ (.string (atP set u).1)).setCell ⟨nb, 1, none⟩ (.slice A6 (atP set u).2.1.length c6)) = W9 at *
          refine pure_ (i := 12) (N := some 13) (v := ?_) (a' := ?_) #[true, true, true, true, true, true, true, true, true, true, true, true, true] rfl rfl (by kernel_rfl) (fun _ _ _ h => h) (Or.inl ⟨by rfl, ?_⟩) ?_ ?_
          rotate_left
          · intro w'
            go_simp
            with_reducible rfl
          rotate_left
          · go_simp
            rfl
          refine done_ (by kernel_rfl) ?_
          go_wp2_with (fail)
          go_meet
          exact ⟨nb, A6, c6, rfl, rfl, HN9', R5', HB9⟩
      case rest =>
      obtain ⟨nb2, A6, c6, rfl, rfl, HNY, RY, HB9⟩ := hcut
      obtain ⟨wx2, hwn⟩ : ∃ W, W = wc := ⟨_, rfl⟩
      rw [← hwn] at HNY RY HB9 ⊢
      clear hwn t1 e0
      replace H0 := Lib.hid (blk_below H0.out HB9.out)
      replace H1 := Lib.hid (blk_below H1.out HB9.out)
      replace H2 := Lib.hid (blk_below H2.out HB9.out)
      replace HT := Lib.hid (blk_below HT.out HB9.out)
      replace HNX := Lib.hid (blk_below HNX.out HB9.out)
      replace HO := Lib.hid (Kd.R_below HO.out HB9.out)
      replace HGo := Lib.hid (Kd.R_below HGo.out HB9.out)
      replace HKy := Lib.hid (Kd.R_below HKy.out HB9.out)
      replace RX := Lib.hid (Kd.R_below RX.out HB9.out)
      replace HBk := Lib.hid (HBk.out.trans (HB9.out.mono HBk.out.size))
      replace HFw := Lib.hid (HFw.out.trans (HB9.out.mono HFw.out.size))
      replace HSz := Lib.hid (Nat.le_trans HSz.out HB9.out.size)
      replace HWr := Lib.hid (Nat.le_trans HWr.out HB9.out.size)
      clear HB9
      obtain ⟨wz, hwz⟩ : ∃ W, W = wx2 := ⟨_, rfl⟩
      rw [← hwz] at H0 H1 H2 HT HO HGo HKy HBk HSz HNX RX HNY RY ⊢
      clear hwz HFw HWr E0
      rw [HA1.out, HA2.out]
      generalize hq1 : eqB (inC cs u) = had
      generalize hq2 : eqB (inC set u) = hst
      have Q1 := Lib.hid hq1
      have Q2 := Lib.hid hq2
      clear hq1 hq2
      cases hst with
      | false =>
        have hsn : refDGs set (r.take (k + 1)) = lg ++ [u] := by rw [HTK.out, refDGs_snoc, show refDG set u = some u from by unfold refDG; rw [if_neg (by rw [Q2.out]; simp)], Hlg.out]
        have HSG := Lib.hid hsn
        have HSN : Hid (refDCs cs set (r.take (k + 1)) = lk) := Lib.hid (by rw [HTK.out, refDCs_snoc, show refDC cs set u = none from by unfold refDC; rw [if_neg (by rw [Q2.out]; simp)], Hlk.out])
        clear hsn
        go_upto_region 15 with (fail)
        refine start_ (n := 10) (S := (fun w' => w'.cell? ⟨gt, 2, none⟩ = some (.slice Ab mb cb2) ∧ w'.cell? (ad.add k) = some (.string u))) (ds := [9]) #[false, false, false, false, false, false, false, false, false, false] (by kernel_rfl) rfl rfl ⟨blk_at HT.out 2 rfl, EK.out _ HKy⟩ (fun hHeld => ?_)
        have H0d := Lib.hid (blk_drew H0.out)
        have H1d := Lib.hid (blk_drew H1.out)
        have H2d := Lib.hid (blk_drew H2.out)
        have HTd := Lib.hid (blk_drew HT.out)
        have HOd := Lib.hid (Kd.R_drew HO.out)
        have HGd := Lib.hid (Kd.R_drew HGo.out)
        have HKd := Lib.hid (Kd.R_drew HKy.out)
        have HBd : Hid (Below w.heap.size w wz.drew) := HBk.out.drew
        have HSd : Hid (L ≤ wz.drew.heap.size) := HSz.out
        generalize wz.drew = Wd at *
        refine pure_ (i := 0) (N := some 63) (v := ?_) (a' := ?_) #[true, false, false, false, false, false, false, false, false, false] rfl rfl (by kernel_rfl) (fun _ _ _ h => h) (Or.inl ⟨by rfl, ?_⟩) ?_ ?_
        rotate_left
        · intro w'
          go_simp
          with_reducible rfl
        rotate_left
        · go_simp
          rfl
        refine take_ (i := 1) (N := some 64) (v := ?_) (a' := ?_) #[true, true, false, false, false, false, false, false, false, false] rfl rfl (by kernel_rfl) (fun _ _ _ h => h) (Or.inl ⟨by rfl, ?_⟩) hHeld ?_ ?_
        rotate_left
        · rintro w' ⟨s0, s1⟩
          go_simp
          with_reducible rfl
        rotate_left
        · go_simp
          rfl
        refine pure_ (i := 2) (N := some 65) (v := ?_) (a' := ?_) #[true, true, true, false, false, false, false, false, false, false] rfl rfl (by kernel_rfl) (fun _ _ _ h => h) (Or.inl ⟨by rfl, ?_⟩) ?_ ?_
        rotate_left
        · intro w'
          go_simp
          with_reducible rfl
        rotate_left
        · go_simp
          rfl
        refine pure_ (i := 3) (N := some 66) (v := ?_) (a' := ?_) #[true, true, true, true, false, false, false, false, false, false] rfl rfl (by kernel_rfl) (fun _ _ _ h => h) (Or.inl ⟨by rfl, ?_⟩) ?_ ?_
        rotate_left
        · intro w'
          go_simp
          with_reducible rfl
        rotate_left
        · go_simp
          rfl
        refine pure_ (i := 4) (N := some 67) (v := ?_) (a' := ?_) #[true, true, true, true, true, false, false, false, false, false] rfl rfl (by kernel_rfl) (fun _ _ _ h => h) (Or.inl ⟨by rfl, ?_⟩) ?_ ?_
        rotate_left
        · intro w'
          go_simp
          with_reducible rfl
        rotate_left
        · go_simp
          rfl
        refine take_ (i := 5) (N := some 68) (v := ?_) (a' := ?_) #[true, true, true, true, true, true, false, false, false, false] rfl rfl (by kernel_rfl) (fun _ _ _ h => h) (Or.inl ⟨by rfl, ?_⟩) hHeld ?_ ?_
        rotate_left
        · rintro w' ⟨s0, s1⟩
          go_simp
          with_reducible rfl
        rotate_left
        · go_simp
          rfl
        refine one_ (i := 6) (N := some 69) #[true, true, true, true, true, true, true, false, false, false] rfl rfl (by kernel_rfl) (by decide) (fun K hK => ?_)
        refine value_ (w1 := (Wd.alloc (.cells [.string u].toArray 9))) (v := .slice (some ⟨Wd.heap.size, 0, none⟩) 1 1) (by rfl) rfl (by go_simp) ?_
        refine hK.out _ _ ⟨pw_cell_below ((Below.refl _ _).alloc (Nat.le_refl _) _) hHeld.1, pw_cell_below ((Below.refl _ _).alloc (Nat.le_refl _) _) hHeld.2⟩ (fun hHeld => ?_)
        clear hK K
        refine norm_ (a' := ?_) ?_ ?_
        rotate_left
        · show Act.put _ (some 69) _ = _
          go_simp
          rfl
        refine one_ (i := 7) (N := some 70) #[true, true, true, true, true, true, true, true, false, false] rfl rfl (by kernel_rfl) (by decide) (fun K hK => ?_)
        refine Kd.R_append_step Kd.string (w0 := Wd) L (by rfl) (.tmp 64) (.tmp 69) 25 9 (.string ⟨#[]⟩) 16 rfl Try.underlying25 info9 rfl (show 0 < 1 by decide) (by decide) (.slice Ab mb cb2) lg u _ (fun _ => True) (fun _ => False) rfl rfl ?hp (fun _ hk => hk.elim) (fun _ _ => trivial) HGd.out (Below.refl _ _) ?hS ?hl ?_
        case hp => exact rfl
        case hS => exact HSd.out
        case hl => have := HLeg.out; omega
        intro v1 w3 hO3 hB3 hg3 hat3
        have HG3 := Lib.hid hO3
        have G0 := Lib.hid (blk_grown H0d.out hg3 (Kd.R_ne HGd.out H0d.out (by decide)))
        have G1 := Lib.hid (blk_grown H1d.out hg3 (Kd.R_ne HGd.out H1d.out (by decide)))
        have G2 := Lib.hid (blk_grown H2d.out hg3 (Kd.R_ne HGd.out H2d.out (by decide)))
        have GT := Lib.hid (blk_grown HTd.out hg3 (Kd.R_ne HGd.out HTd.out (by decide)))
        have GK := Lib.hid (Kd.R_grown HKd.out hg3 (fun q hq e => by have := Kd.R_base HGd.out q e.symm; omega))
        have GO := Lib.hid (Kd.R_over HOd.out HGd.out (by decide) hg3)
        have HS3 : Hid (L ≤ w3.heap.size) := Lib.hid (Nat.le_trans HSd.out hg3.size)
        have HB3 : Hid (Below w.heap.size w w3) := Lib.hid (HBd.out.trans (below_grownR HBd.out.size hg3 (fun q e => by have := Kd.R_base HGd.out q e; have := HE.out; omega)))
        have E3 : w3.cell? (ad.add k) = some (.string u) := EK.out w3 GK
        obtain ⟨A9, m9, c9, hv3⟩ := R_slR hO3
        subst hv3
        refine hK.out _ _ ⟨blk_at GT.out 2 rfl, E3⟩ (fun hHeld => ?_)
        clear hK K hO3 hB3 hg3 hat3 E3
        refine norm_ (a' := ?_) ?_ ?_
        rotate_left
        · show Act.put _ (some 70) _ = _
          go_simp
          rfl
        refine pure_ (i := 8) (N := some 71) (v := ?_) (a' := ?_) #[true, true, true, true, true, true, true, true, true, false] rfl rfl (by kernel_rfl) (fun _ _ _ h => h) (Or.inl ⟨by rfl, ?_⟩) ?_ ?_
        rotate_left
        · intro w'
          go_simp
          with_reducible rfl
        rotate_left
        · go_simp
          rfl
        refine last_ (i := 9) (N := none) #[true, true, true, true, true, true, true, true, true, true] rfl rfl (by kernel_rfl) (by decide) (fun K hK => ?_)
        have x1 : w3.cell? ⟨gt, 2, none⟩ = some (.slice Ab mb cb2) := blk_at GT.out 2 rfl
        have z1 : w3.frozen? ⟨gt, 2, none⟩ = false := blk_frozen GT.out 2
        refine skip_ (w1 := w3.setCell ⟨gt, 2, none⟩ (.slice A9 m9 c9)) (by rfl) rfl (by go_simp) ?_
        clear x1 z1
        refine hK.out _ _ ?_
        clear hK K hHeld
        refine done_ (by kernel_rfl) ?_
        clear H0d H1d H2d HTd HOd HGd HKd HBd HSd
        go_wp2_with (fail)
        have HT9 : Hid ((w3.setCell ⟨gt, 2, none⟩ (.slice A9 m9 c9)).heap[gt]? = some (.cells #[.int .i64 dnum, .slice Ao mo co, .slice A9 m9 c9] 27 (0, 0))) := Lib.hid (blk_put GT.out 2 _ rfl)
        have HO9 := Lib.hid (Kd.R_set GO.out GT.out (by decide) 2 (.slice A9 m9 c9))
        have HG9 := Lib.hid (Kd.R_set HG3.out GT.out (by decide) 2 (.slice A9 m9 c9))
        have HK9 := Lib.hid (Kd.R_set GK.out GT.out (by decide) 2 (.slice A9 m9 c9))
        have H09 := Lib.hid (blk_far G0.out (p := ⟨gt, 2, none⟩) HE.out.2.2.2.2.2.1 (.slice A9 m9 c9))
        have H19 := Lib.hid (blk_far G1.out (p := ⟨gt, 2, none⟩) HE.out.2.2.2.2.2.2.1 (.slice A9 m9 c9))
        have H29 := Lib.hid (blk_far G2.out (p := ⟨gt, 2, none⟩) HE.out.2.2.2.2.2.2.2.1 (.slice A9 m9 c9))
        have HB9 : Hid (Below w.heap.size w (w3.setCell ⟨gt, 2, none⟩ (.slice A9 m9 c9))) := Lib.hid (HB3.out.setCell (show w.heap.size ≤ gt from HE.out.2.2.2.2.2.2.2.2) _)
        have HS9 : Hid (L ≤ (w3.setCell ⟨gt, 2, none⟩ (.slice A9 m9 c9)).heap.size) := Lib.hid (by rw [World.size_setCell]; exact HS3.out)
        go_roundw
        case rel => exact ⟨k + 1, by omega, by go_num, H09, H19, H29, ⟨_, _, HT9, by rw [HSN.out]; exact HO9, by rw [HSG.out]; exact HG9⟩, HK9, HB9, HS9⟩
        case measure => simp [intOf]; omega
      | true =>
        have HF : Hid ((atP set u).1 = u) := Lib.hid (atP_fst (of_eqB Q2.out))
        rw [HF.out] at HNY
        cases had with
        | false =>
          have QC : Hid ((eqB (inC cs u) && eqB ((⟨u, (atP cs u).2.1⟩ : S63) = ⟨u, (atP set u).2.1⟩)) = false) := Lib.hid (by rw [Q1.out]; rfl)
          have HK : Hid (k63.M wz L (fun q => wq ≤ q) ⟨u, (atP set u).2.1⟩ [.string u, .slice A6 (atP set u).2.1.length c6]) := Lib.hid (k63_mkM _ _ _ ⟨u, (atP set u).2.1⟩ (Kd.R_lower (Kd.R_mono (Kd.R_bound RY.out) (fun q hq => hq.2.1)) HLw.out))
          have hsn : refDCs cs set (r.take (k + 1)) = lk ++ [⟨u, (atP set u).2.1⟩] := by rw [HTK.out, refDCs_snoc, show refDC cs set u = some ⟨u, (atP set u).2.1⟩ from by unfold refDC; rw [if_pos Q2.out, if_neg (by rw [QC.out]; simp)], Hlk.out]
          have HSN := Lib.hid hsn
          have HSG : Hid (refDGs set (r.take (k + 1)) = lg) := Lib.hid (by rw [HTK.out, refDGs_snoc, show refDG set u = none from by unfold refDG; rw [if_pos Q2.out], Hlg.out])
          clear hsn
          have n0 : wz.cell? ⟨nb2, 0, none⟩ = some (.string u) := blk_at HNY.out 0 rfl
          have n1 : wz.cell? ⟨nb2, 1, none⟩ = some (.slice A6 (atP set u).2.1.length c6) := blk_at HNY.out 1 rfl
          have s0 : wz.cell? ⟨gt, 0, none⟩ = some (.int .i64 dnum) := blk_at HT.out 0 rfl
          have s1 : wz.cell? ⟨gt, 1, none⟩ = some (.slice Ao mo co) := blk_at HT.out 1 rfl
          have s2 : wz.cell? ⟨gt, 2, none⟩ = some (.slice Ab mb cb2) := blk_at HT.out 2 rfl
          go_wp2_with (at_builtin; refine Kd.R_append k63 (w0 := wz) L rfl (.tmp 82) (.tmp 84) 22 63 (.agg #[.string ⟨#[]⟩, .slice none 0 0]) 40 rfl Try.underlying22 info63' rfl (show 0 < 2 by decide) (by decide) (.slice Ao mo co) lk ⟨u, (atP set u).2.1⟩ _ (fun _ => True) (fun q => wq ≤ q) rfl rfl ?hp ?hok (fun _ _ => trivial) HO.out (Below.refl _ _) ?hS ?hl ?_
                       case hp => exact HK.out
                       case hok => exact fun q hq => ⟨trivial, fun he => by have := HOlt.out q he.symm; omega⟩
                       case hS => exact HSz.out
                       case hl => have := HLen.out; omega
                       intro v1 w3 hO3 hB3 hg3 hat3
                       have HO3 := Lib.hid hO3
                       have G0 := Lib.hid (blk_grown H0.out hg3 (Kd.R_ne HO.out H0.out (by decide)))
                       have G1 := Lib.hid (blk_grown H1.out hg3 (Kd.R_ne HO.out H1.out (by decide)))
                       have G2 := Lib.hid (blk_grown H2.out hg3 (Kd.R_ne HO.out H2.out (by decide)))
                       have GT := Lib.hid (blk_grown HT.out hg3 (Kd.R_ne HO.out HT.out (by decide)))
                       have GK := Lib.hid (Kd.R_over HKy.out HO.out (by decide) hg3)
                       have GG := Lib.hid (Kd.R_over HGo.out HO.out (by decide) hg3)
                       have HS3 : Hid (L ≤ w3.heap.size) := Lib.hid (Nat.le_trans HSz.out hg3.size)
                       have HB3 : Hid (Below w.heap.size w w3) := Lib.hid (HBk.out.trans (below_grownR HBk.out.size hg3 (fun q e => by have := Kd.R_base HO.out q e; have := HE.out; omega)))
                       obtain ⟨A9, m9, c9, hv3⟩ := R_slR hO3
                       subst hv3
                       have q0 : w3.cell? ⟨gt, 0, none⟩ = some (.int .i64 dnum) := blk_at GT.out 0 rfl
                       have x0 : w3.frozen? ⟨gt, 0, none⟩ = false := blk_frozen GT.out 0
                       have q1 : w3.cell? ⟨gt, 1, none⟩ = some (.slice Ao mo co) := blk_at GT.out 1 rfl
                       have x1 : w3.frozen? ⟨gt, 1, none⟩ = false := blk_frozen GT.out 1
                       have q2 : w3.cell? ⟨gt, 2, none⟩ = some (.slice Ab mb cb2) := blk_at GT.out 2 rfl
                       have x2 : w3.frozen? ⟨gt, 2, none⟩ = false := blk_frozen GT.out 2
                       clear hO3 hB3 hg3 hat3)
          have HT9 : Hid ((w3.setCell ⟨gt, 1, none⟩ (.slice A9 m9 c9)).heap[gt]? = some (.cells #[.int .i64 dnum, .slice A9 m9 c9, .slice Ab mb cb2] 27 (0, 0))) := Lib.hid (blk_put GT.out 1 _ rfl)
          have HO9 := Lib.hid (Kd.R_set HO3.out GT.out (by decide) 1 (.slice A9 m9 c9))
          have HG9 := Lib.hid (Kd.R_set GG.out GT.out (by decide) 1 (.slice A9 m9 c9))
          have HK9 := Lib.hid (Kd.R_set GK.out GT.out (by decide) 1 (.slice A9 m9 c9))
          have H09 := Lib.hid (blk_far G0.out (p := ⟨gt, 1, none⟩) HE.out.2.2.2.2.2.1 (.slice A9 m9 c9))
          have H19 := Lib.hid (blk_far G1.out (p := ⟨gt, 1, none⟩) HE.out.2.2.2.2.2.2.1 (.slice A9 m9 c9))
          have H29 := Lib.hid (blk_far G2.out (p := ⟨gt, 1, none⟩) HE.out.2.2.2.2.2.2.2.1 (.slice A9 m9 c9))
          have HB9 : Hid (Below w.heap.size w (w3.setCell ⟨gt, 1, none⟩ (.slice A9 m9 c9))) := Lib.hid (HB3.out.setCell (show w.heap.size ≤ gt from HE.out.2.2.2.2.2.2.2.2) _)
          have HS9 : Hid (L ≤ (w3.setCell ⟨gt, 1, none⟩ (.slice A9 m9 c9)).heap.size) := Lib.hid (by rw [World.size_setCell]; exact HS3.out)
          go_roundw
          case rel => exact ⟨k + 1, by omega, by go_num, H09, H19, H29, ⟨_, _, HT9, by rw [HSN.out]; exact HO9, by rw [HSG.out]; exact HG9⟩, HK9, HB9, HS9⟩
          case measure => simp [intOf]; omega
        | true =>
          have HF1 : Hid ((atP cs u).1 = u) := Lib.hid (atP_fst (of_eqB Q1.out))
          rw [HF1.out] at HNX
          have H46 : Hid (Calls Try.prog 46 #[.agg #[.string u, .slice A5 (atP cs u).2.1.length c5], .agg #[.string u, .slice A6 (atP set u).2.1.length c6]] wz fun e w' => SaysB (eqB ((⟨u, (atP cs u).2.1⟩ : S63) = ⟨u, (atP set u).2.1⟩)) wz e w') := Lib.hid (by
            obtain ⟨da, hda, _, ea⟩ := atP_eta HRA.out (of_eqB Q1.out)
            obtain ⟨db, hdb, _, eb⟩ := atP_eta HRB.out (of_eqB Q2.out)
            exact rsame46 (⟨u, (atP cs u).2.1⟩ : S63) ⟨u, (atP set u).2.1⟩ A5 A6 c5 c6 wz wz (Kd.R_reads' RX.out).2.2 (Kd.R_reads' RY.out).2.2 (Below.refl _ _) (by rw [ea]; exact HVA.out da hda) (by rw [eb]; exact HVB.out db hdb))
          generalize hsm : eqB ((⟨u, (atP cs u).2.1⟩ : S63) = ⟨u, (atP set u).2.1⟩) = bs at H46
          have QS := Lib.hid hsm
          clear hsm
          have m0 : wz.cell? ⟨nb1, 0, none⟩ = some (.string u) := blk_at HNX.out 0 rfl
          have m1 : wz.cell? ⟨nb1, 1, none⟩ = some (.slice A5 (atP cs u).2.1.length c5) := blk_at HNX.out 1 rfl
          have p0 : wz.cell? ⟨nb2, 0, none⟩ = some (.string u) := blk_at HNY.out 0 rfl
          have p1 : wz.cell? ⟨nb2, 1, none⟩ = some (.slice A6 (atP set u).2.1.length c6) := blk_at HNY.out 1 rfl
          cases bs with
          | true =>
            have HSN : Hid (refDCs cs set (r.take (k + 1)) = lk) := Lib.hid (by rw [HTK.out, refDCs_snoc, show refDC cs set u = none from by unfold refDC; rw [if_pos Q2.out, if_pos (by rw [Q1.out, QS.out]; rfl)], Hlk.out])
            have HSG : Hid (refDGs set (r.take (k + 1)) = lg) := Lib.hid (by rw [HTK.out, refDGs_snoc, show refDG set u = none from by unfold refDG; rw [if_pos Q2.out], Hlg.out])
            go_wp2_with (go_at_call 46; refine H46.out.mono ?_; rintro e w9 ⟨rfl, hb⟩
                         have HB9 := hb
                         clear hb m0 m1 p0 p1)
            replace H0 := Lib.hid (blk_below H0.out HB9.out)
            replace H1 := Lib.hid (blk_below H1.out HB9.out)
            replace H2 := Lib.hid (blk_below H2.out HB9.out)
            replace HT := Lib.hid (blk_below HT.out HB9.out)
            replace HO := Lib.hid (Kd.R_below HO.out HB9.out)
            replace HGo := Lib.hid (Kd.R_below HGo.out HB9.out)
            replace HKy := Lib.hid (Kd.R_below HKy.out HB9.out)
            replace HBk := Lib.hid (HBk.out.trans (HB9.out.mono HBk.out.size))
            skip -- := Lib.hid (HFw.out.trans (HB9.out.mono HFw.out.size))
            replace HSz := Lib.hid (Nat.le_trans HSz.out HB9.out.size)
            skip -- := Lib.hid (Nat.le_trans HWr.out HB9.out.size)
            go_roundw
            case rel => exact ⟨k + 1, by omega, by go_num, H0, H1, H2, ⟨_, _, HT, by rw [HSN.out]; exact HO, by rw [HSG.out]; exact HGo⟩, HKy, HBk, HSz⟩
            case measure => simp [intOf]; omega
          | false =>
            have QC : Hid ((eqB (inC cs u) && eqB ((⟨u, (atP cs u).2.1⟩ : S63) = ⟨u, (atP set u).2.1⟩)) = false) := Lib.hid (by rw [QS.out, Bool.and_false])
            go_upto_region 17 with (go_at_call 46; refine H46.out.mono ?_; rintro e w9 ⟨rfl, hb⟩
                                    have HB9 := hb
                                    clear hb m0 m1 p0 p1)
            clear H46
            replace H0 := Lib.hid (blk_below H0.out HB9.out)
            replace H1 := Lib.hid (blk_below H1.out HB9.out)
            replace H2 := Lib.hid (blk_below H2.out HB9.out)
            replace HT := Lib.hid (blk_below HT.out HB9.out)
            replace HNX := Lib.hid (blk_below HNX.out HB9.out)
            replace HNY := Lib.hid (blk_below HNY.out HB9.out)
            replace HO := Lib.hid (Kd.R_below HO.out HB9.out)
            replace HGo := Lib.hid (Kd.R_below HGo.out HB9.out)
            replace HKy := Lib.hid (Kd.R_below HKy.out HB9.out)
            replace RX := Lib.hid (Kd.R_below RX.out HB9.out)
            replace RY := Lib.hid (Kd.R_below RY.out HB9.out)
            replace HBk := Lib.hid (HBk.out.trans (HB9.out.mono HBk.out.size))
            skip -- := Lib.hid (HFw.out.trans (HB9.out.mono HFw.out.size))
            replace HSz := Lib.hid (Nat.le_trans HSz.out HB9.out.size)
            skip -- := Lib.hid (Nat.le_trans HWr.out HB9.out.size)
            clear HB9
            obtain ⟨wv, hwv⟩ : ∃ W, W = w9 := ⟨_, rfl⟩
            rw [← hwv] at H0 H1 H2 HT HO HGo HKy HBk HSz HNX RX HNY RY ⊢
            clear hwv
            have HK : Hid (k63.M wv L (fun q => wq ≤ q) ⟨u, (atP set u).2.1⟩ [.string u, .slice A6 (atP set u).2.1.length c6]) := Lib.hid (k63_mkM _ _ _ ⟨u, (atP set u).2.1⟩ (Kd.R_lower (Kd.R_mono (Kd.R_bound RY.out) (fun q hq => hq.2.1)) HLw.out))
            have hsn : refDCs cs set (r.take (k + 1)) = lk ++ [⟨u, (atP set u).2.1⟩] := by rw [HTK.out, refDCs_snoc, show refDC cs set u = some ⟨u, (atP set u).2.1⟩ from by unfold refDC; rw [if_pos Q2.out, if_neg (by rw [QC.out]; simp)], Hlk.out]
            have HSN := Lib.hid hsn
            have HSG : Hid (refDGs set (r.take (k + 1)) = lg) := Lib.hid (by rw [HTK.out, refDGs_snoc, show refDG set u = none from by unfold refDG; rw [if_pos Q2.out], Hlg.out])
            clear hsn
            have n0 : wv.cell? ⟨nb2, 0, none⟩ = some (.string u) := blk_at HNY.out 0 rfl
            have n1 : wv.cell? ⟨nb2, 1, none⟩ = some (.slice A6 (atP set u).2.1.length c6) := blk_at HNY.out 1 rfl
            have s0 : wv.cell? ⟨gt, 0, none⟩ = some (.int .i64 dnum) := blk_at HT.out 0 rfl
            have s1 : wv.cell? ⟨gt, 1, none⟩ = some (.slice Ao mo co) := blk_at HT.out 1 rfl
            have s2 : wv.cell? ⟨gt, 2, none⟩ = some (.slice Ab mb cb2) := blk_at HT.out 2 rfl
            go_wp2_with (at_builtin; refine Kd.R_append k63 (w0 := wv) L rfl (.tmp 82) (.tmp 84) 22 63 (.agg #[.string ⟨#[]⟩, .slice none 0 0]) 40 rfl Try.underlying22 info63' rfl (show 0 < 2 by decide) (by decide) (.slice Ao mo co) lk ⟨u, (atP set u).2.1⟩ _ (fun _ => True) (fun q => wq ≤ q) rfl rfl ?hp ?hok (fun _ _ => trivial) HO.out (Below.refl _ _) ?hS ?hl ?_
                         case hp => exact HK.out
                         case hok => exact fun q hq => ⟨trivial, fun he => by have := HOlt.out q he.symm; omega⟩
                         case hS => exact HSz.out
                         case hl => have := HLen.out; omega
                         intro v1 w3 hO3 hB3 hg3 hat3
                         have HO3 := Lib.hid hO3
                         have G0 := Lib.hid (blk_grown H0.out hg3 (Kd.R_ne HO.out H0.out (by decide)))
                         have G1 := Lib.hid (blk_grown H1.out hg3 (Kd.R_ne HO.out H1.out (by decide)))
                         have G2 := Lib.hid (blk_grown H2.out hg3 (Kd.R_ne HO.out H2.out (by decide)))
                         have GT := Lib.hid (blk_grown HT.out hg3 (Kd.R_ne HO.out HT.out (by decide)))
                         have GK := Lib.hid (Kd.R_over HKy.out HO.out (by decide) hg3)
                         have GG := Lib.hid (Kd.R_over HGo.out HO.out (by decide) hg3)
                         have HS3 : Hid (L ≤ w3.heap.size) := Lib.hid (Nat.le_trans HSz.out hg3.size)
                         have HB3 : Hid (Below w.heap.size w w3) := Lib.hid (HBk.out.trans (below_grownR HBk.out.size hg3 (fun q e => by have := Kd.R_base HO.out q e; have := HE.out; omega)))
                         obtain ⟨A9, m9, c9, hv3⟩ := R_slR hO3
                         subst hv3
                         have q0 : w3.cell? ⟨gt, 0, none⟩ = some (.int .i64 dnum) := blk_at GT.out 0 rfl
                         have x0 : w3.frozen? ⟨gt, 0, none⟩ = false := blk_frozen GT.out 0
                         have q1 : w3.cell? ⟨gt, 1, none⟩ = some (.slice Ao mo co) := blk_at GT.out 1 rfl
                         have x1 : w3.frozen? ⟨gt, 1, none⟩ = false := blk_frozen GT.out 1
                         have q2 : w3.cell? ⟨gt, 2, none⟩ = some (.slice Ab mb cb2) := blk_at GT.out 2 rfl
                         have x2 : w3.frozen? ⟨gt, 2, none⟩ = false := blk_frozen GT.out 2
                         clear hO3 hB3 hg3 hat3)
            have HT9 : Hid ((w3.setCell ⟨gt, 1, none⟩ (.slice A9 m9 c9)).heap[gt]? = some (.cells #[.int .i64 dnum, .slice A9 m9 c9, .slice Ab mb cb2] 27 (0, 0))) := Lib.hid (blk_put GT.out 1 _ rfl)
            have HO9 := Lib.hid (Kd.R_set HO3.out GT.out (by decide) 1 (.slice A9 m9 c9))
            have HG9 := Lib.hid (Kd.R_set GG.out GT.out (by decide) 1 (.slice A9 m9 c9))
            have HK9 := Lib.hid (Kd.R_set GK.out GT.out (by decide) 1 (.slice A9 m9 c9))
            have H09 := Lib.hid (blk_far G0.out (p := ⟨gt, 1, none⟩) HE.out.2.2.2.2.2.1 (.slice A9 m9 c9))
            have H19 := Lib.hid (blk_far G1.out (p := ⟨gt, 1, none⟩) HE.out.2.2.2.2.2.2.1 (.slice A9 m9 c9))
            have H29 := Lib.hid (blk_far G2.out (p := ⟨gt, 1, none⟩) HE.out.2.2.2.2.2.2.2.1 (.slice A9 m9 c9))
            have HB9 : Hid (Below w.heap.size w (w3.setCell ⟨gt, 1, none⟩ (.slice A9 m9 c9))) := Lib.hid (HB3.out.setCell (show w.heap.size ≤ gt from HE.out.2.2.2.2.2.2.2.2) _)
            have HS9 : Hid (L ≤ (w3.setCell ⟨gt, 1, none⟩ (.slice A9 m9 c9)).heap.size) := Lib.hid (by rw [World.size_setCell]; exact HS3.out)
            go_roundw
            case rel => exact ⟨k + 1, by omega, by go_num, H09, H19, H29, ⟨_, _, HT9, by rw [HSN.out]; exact HO9, by rw [HSG.out]; exact HG9⟩, HK9, HB9, HS9⟩
            case measure => simp [intOf]; omega
    · obtain rfl : nr = k := by omega
      have hfull : r.take nr = r := List.take_of_length_le (by rw [← Hnr.out]; exact Nat.le_refl _)
      rw [hfull] at HO HGo
      have HRR := HMB.out
      have hmo : mo = (refDCs cs set r).length := (Kd.R_reads' HO.out).1
      have hmb : mb = (refDGs set r).length := (Kd.R_reads' HGo.out).1
      generalize refDCs cs set r = lk at *
      generalize refDGs set r = lg at *
      have HRh := Lib.hid HRR
      clear hfull hmo hmb HRR
      have s0 : wr.cell? ⟨gt, 0, none⟩ = some (.int .i64 dnum) := blk_at HT.out 0 rfl
      have s1 : wr.cell? ⟨gt, 1, none⟩ = some (.slice Ao mo co) := blk_at HT.out 1 rfl
      have s2 : wr.cell? ⟨gt, 2, none⟩ = some (.slice Ab mb cb2) := blk_at HT.out 2 rfl
      have y0 : wr.cell? ⟨g2, 0, none⟩ = some (.int .i64 0) := blk_at H2.out 0 rfl
      have z0 : wr.frozen? ⟨g2, 0, none⟩ = false := blk_frozen H2.out 0
      have y1 : wr.cell? ⟨g2, 1, none⟩ = some (.slice none 0 0) := blk_at H2.out 1 rfl
      have z1 : wr.frozen? ⟨g2, 1, none⟩ = false := blk_frozen H2.out 1
      have y2 : wr.cell? ⟨g2, 2, none⟩ = some (.slice none 0 0) := blk_at H2.out 2 rfl
      have z2 : wr.frozen? ⟨g2, 2, none⟩ = false := blk_frozen H2.out 2
      have HR : Hid (diffP num cs dnum set = (dnum, lk, lg, 0)) := HRh
      go_wp2_with (fail)
      have hb4 : (((wr.setCell ⟨g2, 0, none⟩ (.int .i64 dnum)).setCell ⟨g2, 1, none⟩ (.slice Ao mo co)).setCell ⟨g2, 2, none⟩ (.slice Ab mb cb2)).heap[g2]? = some (.cells #[.int .i64 dnum, .slice Ao mo co, .slice Ab mb cb2] 27 (0, 0)) := blk_put (blk_put (blk_put H2.out 0 _ rfl) 1 _ rfl) 2 _ rfl
      have hb5 : Below w.heap.size w (((wr.setCell ⟨g2, 0, none⟩ (.int .i64 dnum)).setCell ⟨g2, 1, none⟩ (.slice Ao mo co)).setCell ⟨g2, 2, none⟩ (.slice Ab mb cb2)) := ((HBk.out.setCell HG2.out _).setCell HG2.out _).setCell HG2.out _
      have hlow : g2 < L := HE.out.2.2.1
      have hr5 := R_low (R_low (R_low HO.out (p := ⟨g2, 0, none⟩) hlow (.int .i64 dnum)) (p := ⟨g2, 1, none⟩) hlow (.slice Ao mo co)) (p := ⟨g2, 2, none⟩) hlow (.slice Ab mb cb2)
      have hg5 := R_low (R_low (R_low HGo.out (p := ⟨g2, 0, none⟩) hlow (.int .i64 dnum)) (p := ⟨g2, 1, none⟩) hlow (.slice Ao mo co)) (p := ⟨g2, 2, none⟩) hlow (.slice Ab mb cb2)
      refine bodyPost_ret (results_list (rs := [.cell 4 27, .tmp 5]) (vs := [.agg #[.int .i64 dnum, .slice Ao mo co, .slice Ab mb cb2], .int .i64 0]) rfl (by simp) (.cell g2 27 #[.int .i64 dnum, .slice Ao mo co, .slice Ab mb cb2] (0, 0) _ rfl hb4 Try.underlying27 rfl (by kernel_rfl) (.tmp .nil))) rfl ?_
      rw [HR.out]
      exact ⟨_, _, rfl, Lib.hid (Kd.R_lower hr5 HE.out.2.2.2.2.1), Lib.hid (Kd.R_lower hg5 HE.out.2.2.2.2.1), Lib.hid hb5⟩
end Go.Proofs.Ytpplnhefpcofoaa.PDeltaJoin
