/- delta.Diff. -/
import Derived.Test.YtpplnhefpcofoaaZWA
import Derived.Test.YtpplnhefpcofoaaZCH
namespace Go.Proofs.Ytpplnhefpcofoaa.PDeltaJoin
open Go.RowKit Go.Proofs.YtpplnhefpcofoaaW.PrintWords Go.Proofs.YtpplnhefpcofoaaW.PrintLast
set_option linter.unusedVariables false
set_option linter.unusedSimpArgs false

def diffKeepC (p : MPC) : Option S63 := if p.isR = false then none else if p.isL = true ∧ sameC p.l p.r = true then none else some p.r
def diffKeepG (p : MPC) : Option ByteArray := if p.isR = false then some p.l.f0 else none
def diffSet (ps : List MPC) : List S63 := ps.filterMap diffKeepC
def diffGone (ps : List MPC) : List ByteArray := ps.filterMap diffKeepG
/-- What Diff answers: number, cells, keys that are gone, the error. -/
def diffP (an : Int) (as_ : List S63) (bn : Int) (bs : List S63) : Int × List S63 × List ByteArray × Int :=
  if chkS an as_ ≠ 0 then (0, [], [], chkS an as_) else if chkS bn bs ≠ 0 then (0, [], [], chkS bn bs) else (bn, diffSet (mrgC as_ bs), diffGone (mrgC as_ bs), 0)
structure IDf (w : World) (L bd g2 : Nat) (bn : Int) (xs : List MPC) (W : World) : Prop where
  hb : Below w.heap.size w W
  sz : L ≤ W.heap.size
  hd : ∃ vs vg, W.heap[bd]? = some (.cells #[.int .i64 bn, vs, vg] 27 (0, 0)) ∧ Kd.R k63 63 W L (fun _ => True) vs (diffSet xs) ∧ Kd.R Kd.string 9 W L (fun _ => True) vg (diffGone xs)
  h2 : W.heap[g2]? = some (.cells #[.int .i64 0, .slice none 0 0, .slice none 0 0] 27 (0, 0))
theorem IDf.turn {w : World} {L bd g2 : Nat} {bn : Int} {xs : List MPC} {W W' : World} (hL : w.heap.size ≤ L) (ht : Turn L W W') (h : IDf w L bd g2 bn xs W) : IDf w L bd g2 bn xs W' := by
  obtain ⟨a1, a2, ⟨vs, vg, a3, a4, a5⟩, a6⟩ := h
  exact ⟨Below.turn a1 ht hL, Nat.le_trans a2 ht.size, ⟨vs, vg, ht.blk a3, R_turn a4 ht, R_turn a5 ht⟩, ht.blk a6⟩
set_option maxRecDepth 100000 in
set_option maxHeartbeats 16000000 in
theorem diff22 (an : Int) (as_ : List S63) (bn : Int) (bs : List S63) (A B : Option Addr) (ca cb : Nat) (w : World) (hA : Kd.C k63 w A as_.length as_) (hB : Kd.C k63 w B bs.length bs) :
    Calls Try.prog 22 #[.agg #[.int .i64 an, .slice A as_.length ca], .agg #[.int .i64 bn, .slice B bs.length cb]] w fun e w' => DAns (diffP an as_ bn bs) w e w' := by
  have HTa : Hid (∀ W, Below w.heap.size w W → Calls Try.prog 34 #[.agg #[.int .i64 an, .slice A as_.length ca]] W fun e w' => e = .returned (.int .i64 (chkS an as_)) ∧ Hid (Below W.heap.size W w')) := Lib.hid (fun W hW => checkState34 an as_ A ca W (Kd.C_below hA hW))
  have HTb : Hid (∀ W, Below w.heap.size w W → Calls Try.prog 34 #[.agg #[.int .i64 bn, .slice B bs.length cb]] W fun e w' => e = .returned (.int .i64 (chkS bn bs)) ∧ Hid (Below W.heap.size W w')) := Lib.hid (fun W hW => checkState34 bn bs B cb W (Kd.C_below hB hW))
  obtain ⟨n, hn⟩ : ∃ n, n = as_.length := ⟨_, rfl⟩
  obtain ⟨m, hm⟩ : ∃ m, m = bs.length := ⟨_, rfl⟩
  have HA := Lib.hid hA
  have HB := Lib.hid hB
  have Hn := Lib.hid hn
  have Hm := Lib.hid hm
  rw [← hn] at HTa ⊢
  rw [← hm] at HTb ⊢
  clear hA hB hn hm
  have H0 : Hid ((((w.alloc (.cells #[.int .i64 an, .slice A n ca] 24)).alloc (.cells #[.int .i64 bn, .slice B m cb] 24)).alloc (.cells #[.int .i64 0, .slice none 0 0, .slice none 0 0] 27)).heap[w.heap.size]? = some (.cells #[.int .i64 an, .slice A n ca] 24 (0, 0))) := Lib.hid (blk_alloc (blk_alloc (blk_new w _) _) _)
  have H1 : Hid ((((w.alloc (.cells #[.int .i64 an, .slice A n ca] 24)).alloc (.cells #[.int .i64 bn, .slice B m cb] 24)).alloc (.cells #[.int .i64 0, .slice none 0 0, .slice none 0 0] 27)).heap[(w.heap.size + 1)]? = some (.cells #[.int .i64 bn, .slice B m cb] 24 (0, 0))) := Lib.hid (by
    have := blk_new (w.alloc (.cells #[.int .i64 an, .slice A n ca] 24)) (.cells #[.int .i64 bn, .slice B m cb] 24)
    rw [World.size_alloc] at this
    exact blk_alloc this _)
  have H2 : Hid ((((w.alloc (.cells #[.int .i64 an, .slice A n ca] 24)).alloc (.cells #[.int .i64 bn, .slice B m cb] 24)).alloc (.cells #[.int .i64 0, .slice none 0 0, .slice none 0 0] 27)).heap[(w.heap.size + 1 + 1)]? = some (.cells #[.int .i64 0, .slice none 0 0, .slice none 0 0] 27 (0, 0))) := Lib.hid (by
    have := blk_new ((w.alloc (.cells #[.int .i64 an, .slice A n ca] 24)).alloc (.cells #[.int .i64 bn, .slice B m cb] 24)) (.cells #[.int .i64 0, .slice none 0 0, .slice none 0 0] 27)
    rw [World.size_alloc, World.size_alloc] at this
    exact this)
  have HW : Hid (Below w.heap.size w (((w.alloc (.cells #[.int .i64 an, .slice A n ca] 24)).alloc (.cells #[.int .i64 bn, .slice B m cb] 24)).alloc (.cells #[.int .i64 0, .slice none 0 0, .slice none 0 0] 27))) := Lib.hid ((((Below.refl _ w).alloc (Nat.le_refl _) _).alloc (by simp) _).alloc (by simp; omega) _)
  refine calls_of_marks Try.func22 rfl ?_
  simp only [Try.ntmps22, List.size_toArray, List.length_cons, List.length_nil, Nat.reduceAdd, Nat.reduceSub, Array.replicate_succ, Array.replicate_zero, List.push_toArray, List.append_toArray, List.nil_append, List.cons_append]
  go_upto_region 1 with (fail)
  obtain ⟨g2, e2⟩ : ∃ g, g = w.heap.size + 1 + 1 := ⟨_, rfl⟩
  rw [← e2] at H2 ⊢
  obtain ⟨g1, e1⟩ : ∃ g, g = w.heap.size + 1 := ⟨_, rfl⟩
  rw [← e1] at H1 ⊢
  obtain ⟨g0, e0⟩ : ∃ g, g = w.heap.size := ⟨_, rfl⟩
  rw [← e0] at H0 ⊢
  have HE : Hid (g0 = w.heap.size ∧ g1 = w.heap.size + 1 ∧ g2 = w.heap.size + 2) := Lib.hid ⟨e0, e1, by omega⟩
  clear e0 e1 e2
  generalize (((w.alloc (.cells #[.int .i64 an, .slice A n ca] 24)).alloc (.cells #[.int .i64 bn, .slice B m cb] 24)).alloc (.cells #[.int .i64 0, .slice none 0 0, .slice none 0 0] 27)) = wa at *
  generalize hz1 : chkS an as_ = z1 at *
  have HZ1 := Lib.hid hz1
  clear hz1
  generalize hz2 : chkS bn bs = z2 at *
  have HZ2 := Lib.hid hz2
  clear hz2
  have a0 : wa.cell? ⟨g0, 0, none⟩ = some (.int .i64 an) := blk_at H0.out 0 rfl
  have a1 : wa.cell? ⟨g0, 1, none⟩ = some (.slice A n ca) := blk_at H0.out 1 rfl
  by_cases hz0 : z1 = 0
  rotate_left
  · have HR : Hid (diffP an as_ bn bs = (0, [], [], z1)) := Lib.hid (by unfold diffP; rw [HZ1.out, if_pos hz0])
    have k1 : (z1 == 0) = false := beq_false_of_ne hz0
    have k2 : (z1 != 0) = true := by simp [hz0]
    clear hz0
    go_wp2_with (go_at_call 34; refine (HTa.out _ HW.out).mono ?_; rintro e w1 ⟨rfl, hb1⟩
                 have HWe : Hid (Below w.heap.size w w1) := HW.out.trans (hb1.out.mono HW.out.size)
                 have KK := Lib.hid (blk_below H2.out hb1.out)
                 clear hb1 a0 a1
                 have x0 : w1.cell? ⟨g2, 0, none⟩ = some (.int .i64 0) := blk_at KK.out 0 rfl
                 have y0 : w1.frozen? ⟨g2, 0, none⟩ = false := blk_frozen KK.out 0
                 have x1 : w1.cell? ⟨g2, 1, none⟩ = some (.slice none 0 0) := blk_at KK.out 1 rfl
                 have y1 : w1.frozen? ⟨g2, 1, none⟩ = false := blk_frozen KK.out 1
                 have x2 : w1.cell? ⟨g2, 2, none⟩ = some (.slice none 0 0) := blk_at KK.out 2 rfl
                 have y2 : w1.frozen? ⟨g2, 2, none⟩ = false := blk_frozen KK.out 2
                 skip)
    have hb4 : (((w1.setCell ⟨g2, 0, none⟩ (.int .i64 0)).setCell ⟨g2, 1, none⟩ (.slice none 0 0)).setCell ⟨g2, 2, none⟩ (.slice none 0 0)).heap[g2]? = some (.cells #[.int .i64 0, .slice none 0 0, .slice none 0 0] 27 (0, 0)) := blk_put (blk_put (blk_put KK.out 0 _ rfl) 1 _ rfl) 2 _ rfl
    refine bodyD_ret (bodyPost_ret (results_list (rs := [.cell 4 27, .tmp 5]) (vs := [.agg #[.int .i64 0, .slice none 0 0, .slice none 0 0], .int .i64 z1]) rfl (by simp) (.cell g2 27 #[.int .i64 0, .slice none 0 0, .slice none 0 0] (0, 0) _ rfl hb4 Try.underlying27 rfl (by kernel_rfl) (.tmp .nil))) rfl ?_)
    rw [HR.out]
    exact ⟨.slice none 0 0, .slice none 0 0, rfl, Lib.hid (Kd.R_nil _ _ _ _ _), Lib.hid (Kd.R_nil _ _ _ _ _), Lib.hid (((HWe.out.setCell (show w.heap.size ≤ g2 by have := HE.out; omega) _).setCell (show w.heap.size ≤ g2 by have := HE.out; omega) _).setCell (show w.heap.size ≤ g2 by have := HE.out; omega) _)⟩
  subst hz0
  go_upto_region 4 with (go_at_call 34; refine (HTa.out _ HW.out).mono ?_; rintro e w1 ⟨rfl, hb1⟩
                         have HW1 : Hid (Below w.heap.size w w1) := HW.out.trans (hb1.out.mono HW.out.size)
                         have K0 := Lib.hid (blk_below H0.out hb1.out)
                         have K1 := Lib.hid (blk_below H1.out hb1.out)
                         have K2 := Lib.hid (blk_below H2.out hb1.out)
                         clear hb1)
  clear a0 a1 H0 H1 H2 HW HTa
  have a0 : w1.cell? ⟨g1, 0, none⟩ = some (.int .i64 bn) := blk_at K1.out 0 rfl
  have a1 : w1.cell? ⟨g1, 1, none⟩ = some (.slice B m cb) := blk_at K1.out 1 rfl
  by_cases hz0 : z2 = 0
  rotate_left
  · have HR : Hid (diffP an as_ bn bs = (0, [], [], z2)) := Lib.hid (by unfold diffP; rw [HZ1.out, if_neg (by simp), HZ2.out, if_pos hz0])
    have k1 : (z2 == 0) = false := beq_false_of_ne hz0
    have k2 : (z2 != 0) = true := by simp [hz0]
    clear hz0
    go_wp2_with (go_at_call 34; refine (HTb.out _ HW1.out).mono ?_; rintro e w2 ⟨rfl, hb1⟩
                 have HWe : Hid (Below w.heap.size w w2) := HW1.out.trans (hb1.out.mono HW1.out.size)
                 have KK := Lib.hid (blk_below K2.out hb1.out)
                 clear hb1 a0 a1
                 have x0 : w2.cell? ⟨g2, 0, none⟩ = some (.int .i64 0) := blk_at KK.out 0 rfl
                 have y0 : w2.frozen? ⟨g2, 0, none⟩ = false := blk_frozen KK.out 0
                 have x1 : w2.cell? ⟨g2, 1, none⟩ = some (.slice none 0 0) := blk_at KK.out 1 rfl
                 have y1 : w2.frozen? ⟨g2, 1, none⟩ = false := blk_frozen KK.out 1
                 have x2 : w2.cell? ⟨g2, 2, none⟩ = some (.slice none 0 0) := blk_at KK.out 2 rfl
                 have y2 : w2.frozen? ⟨g2, 2, none⟩ = false := blk_frozen KK.out 2
                 skip)
    have hb4 : (((w2.setCell ⟨g2, 0, none⟩ (.int .i64 0)).setCell ⟨g2, 1, none⟩ (.slice none 0 0)).setCell ⟨g2, 2, none⟩ (.slice none 0 0)).heap[g2]? = some (.cells #[.int .i64 0, .slice none 0 0, .slice none 0 0] 27 (0, 0)) := blk_put (blk_put (blk_put KK.out 0 _ rfl) 1 _ rfl) 2 _ rfl
    refine bodyD_ret (bodyPost_ret (results_list (rs := [.cell 4 27, .tmp 5]) (vs := [.agg #[.int .i64 0, .slice none 0 0, .slice none 0 0], .int .i64 z2]) rfl (by simp) (.cell g2 27 #[.int .i64 0, .slice none 0 0, .slice none 0 0] (0, 0) _ rfl hb4 Try.underlying27 rfl (by kernel_rfl) (.tmp .nil))) rfl ?_)
    rw [HR.out]
    exact ⟨.slice none 0 0, .slice none 0 0, rfl, Lib.hid (Kd.R_nil _ _ _ _ _), Lib.hid (Kd.R_nil _ _ _ _ _), Lib.hid (((HWe.out.setCell (show w.heap.size ≤ g2 by have := HE.out; omega) _).setCell (show w.heap.size ≤ g2 by have := HE.out; omega) _).setCell (show w.heap.size ≤ g2 by have := HE.out; omega) _)⟩
  subst hz0
  go_upto_region 7 with (go_at_call 34; refine (HTb.out _ HW1.out).mono ?_; rintro e w2 ⟨rfl, hb1⟩
                         have HW2 : Hid (Below w.heap.size w w2) := HW1.out.trans (hb1.out.mono HW1.out.size)
                         have H0 := Lib.hid (blk_below K0.out hb1.out)
                         have H1 := Lib.hid (blk_below K1.out hb1.out)
                         have H2 := Lib.hid (blk_below K2.out hb1.out)
                         clear hb1)
  clear a0 a1 K0 K1 K2 HW1 HTb
  have HOA := Lib.hid (chkS_ok HZ1.out)
  have HOB := Lib.hid (chkS_ok HZ2.out)
  have hn64 : n ≤ 64 := by have := HOA.out.1; have := Hn.out; omega
  have hm64 : m ≤ 64 := by have := HOB.out.1; have := Hm.out; omega
  have b0 : w2.cell? ⟨g1, 0, none⟩ = some (.int .i64 bn) := blk_at H1.out 0 rfl
  have b1 : w2.cell? ⟨g1, 1, none⟩ = some (.slice B m cb) := blk_at H1.out 1 rfl
  have a0 : w2.cell? ⟨g0, 0, none⟩ = some (.int .i64 an) := blk_at H0.out 0 rfl
  have a1 : w2.cell? ⟨g0, 1, none⟩ = some (.slice A n ca) := blk_at H0.out 1 rfl
  have qa : g0 < w2.heap.size := blk_lt H0.out
  have qb : g1 < w2.heap.size := blk_lt H1.out
  have HT : Hid ((w2.alloc (.cells #[.int .i64 bn, .slice none 0 0, .slice none 0 0] 27)).heap[w2.heap.size]? = some (.cells #[.int .i64 bn, .slice none 0 0, .slice none 0 0] 27 (0, 0))) := Lib.hid (blk_new w2 _)
  have HWx : Hid (Below w.heap.size w (w2.alloc (.cells #[.int .i64 bn, .slice none 0 0, .slice none 0 0] 27))) := HW2.out.alloc HW2.out.size _
  have HSx : Hid ((w2.alloc (.cells #[.int .i64 bn, .slice none 0 0, .slice none 0 0] 27)).heap.size = w2.heap.size + 1) := Lib.hid (by simp)
  have G0 := Lib.hid (blk_alloc H0.out (.cells #[.int .i64 bn, .slice none 0 0, .slice none 0 0] 27))
  have G1 := Lib.hid (blk_alloc H1.out (.cells #[.int .i64 bn, .slice none 0 0, .slice none 0 0] 27))
  have G2 := Lib.hid (blk_alloc H2.out (.cells #[.int .i64 bn, .slice none 0 0, .slice none 0 0] 27))
  go_upto_region 8 with (fail)
  clear a0 a1 b0 b1 qa qb
  obtain ⟨bd, hbd⟩ : ∃ bd, bd = w2.heap.size := ⟨_, rfl⟩
  rw [← hbd] at HT ⊢
  have HTF : Hid (g2 < bd) := Lib.hid (by rw [hbd]; exact blk_lt H2.out)
  replace HSx : Hid ((w2.alloc (.cells #[.int .i64 bn, .slice none 0 0, .slice none 0 0] 27)).heap.size = bd + 1) := Lib.hid (by rw [HSx.out, hbd])
  clear H0 H1 H2 HW2 hbd
  generalize w2.alloc (.cells #[.int .i64 bn, .slice none 0 0, .slice none 0 0] 27) = wx at *
  have b0 : wx.cell? ⟨g1, 0, none⟩ = some (.int .i64 bn) := blk_at G1.out 0 rfl
  have b1 : wx.cell? ⟨g1, 1, none⟩ = some (.slice B m cb) := blk_at G1.out 1 rfl
  have a0 : wx.cell? ⟨g0, 0, none⟩ = some (.int .i64 an) := blk_at G0.out 0 rfl
  have a1 : wx.cell? ⟨g0, 1, none⟩ = some (.slice A n ca) := blk_at G0.out 1 rfl
  go_wp2_with (go_at_call 35; refine (merged35 A B n m ca cb wx).mono ?_; rintro e w4 ⟨rfl, hx1, hx2, hx3, hbx, hsx⟩)
  have HX1 := Lib.hid hx1.out
  have HX2 := Lib.hid hx2.out
  have HX3 := Lib.hid hx3.out
  have HS4 : Hid (w4.heap.size = bd + 4) := Lib.hid (by have := HSx.out; omega)
  have HW4 : Hid (Below w.heap.size w w4) := HWx.out.trans (hbx.out.mono HWx.out.size)
  replace G2 := Lib.hid (blk_below G2.out hbx.out)
  replace HT := Lib.hid (blk_below HT.out hbx.out)
  obtain ⟨q, hq⟩ : ∃ q, q = wx.heap.size := ⟨_, rfl⟩
  rw [← hq] at HX1 HX2 HX3 ⊢
  have HQ : Hid (q = bd + 1) := Lib.hid (by rw [hq]; exact HSx.out)
  clear a0 a1 b0 b1 hx1 hx2 hx3 hbx hsx HSx HWx hq G0 G1
  have hc0 : Below w.heap.size w w4 := HW4.out
  refine range_wp (α := {x : PVC w // x.p ∈ mrgC as_ bs}) (gf := 51) (lb := #[.pointer (some ⟨q, 0, none⟩), .pointer (some ⟨q + 1, 0, none⟩), .pointer (some ⟨q + 2, 0, none⟩)]) (by rfl) (fun args w => enters_ Try.func51 (by kernel_rfl) rfl args w)
    (X := fun k => k = bd)
    (stops51 as_ bs A B ca cb HA.out HB.out hc0 q (q + 1) (q + 2) (fun k => k = bd) (by rw [← Hn.out]; exact HX1.out) (by rw [← Hm.out]; exact HX2.out) HX3.out (by have := HQ.out; refine ⟨?_, ?_, ?_⟩ <;> (intro h; omega)) (by have := HTF.out; have := HE.out; intro k h; omega)) (fun _ => rfl)
    (fun xs W => IDf w w4.heap.size bd g2 bn (plC xs) W) (fun _ _ _ => False)
    (fun xs W W' ht h => h.turn hc0.size ht) (fun _ _ _ _ _ h => h.elim)
    ⟨hc0, Nat.le_refl _, ⟨_, _, HT.out, Kd.R_nil _ _ _ _ _, Kd.R_nil _ _ _ _ _⟩, G2.out⟩ (fun _ _ h => h.sz) (fun x => boxC x.1) 71 9 ?assign ?body ?done ?stop
  case assign =>
    rintro l ⟨⟨⟨vl, vr, isL, isR⟩, la, lc, ra, rc, hl, cl, hr, cr⟩, hx⟩ W K hK
    simp only [tmpsIn_one, encC, boxC, List.setIfInBounds_toArray, List.set_cons_zero, List.set_cons_succ] at hK ⊢
    clear hl cl hr cr hx
    generalize vl.f1.length = nl at *
    generalize vr.f1.length = nr at *
    refine regF_ (free_round l) (by kernel_rfl) (by rintro ⟨_, _, h⟩; exact h) ?_
    go_wp2_with (fail)
    exact hK
  case body =>
      rintro l pre ⟨⟨⟨vl, vr, isL, isR⟩, la, lc, ra, rc, hl, cl, hr, cr⟩, hx⟩ b W hLb hI hbx hLW hlen
      simp only [tmpsIn_one, encC, boxC, List.setIfInBounds_toArray, List.set_cons_zero, List.set_cons_succ] at hbx ⊢
      have hmem := mrgC_mem _ as_ bs (Nat.le_refl _) _ hx
      have hlim := mrgC_le _ as_ bs (Nat.le_refl _)
      obtain ⟨ib, isz, ⟨vs, vg, it, irow, igr⟩, i2⟩ := hI
      have hxs : (plC pre).length ≤ 128 := by unfold plC; rw [List.length_map]; have := Hn.out; have := Hm.out; omega
      obtain ⟨xs, hxse⟩ : ∃ xs, xs = plC pre := ⟨_, rfl⟩
      rw [← hxse] at hxs irow igr
      have hpm2 : plC (pre ++ [⟨⟨⟨vl, vr, isL, isR⟩, la, lc, ra, rc, hl, cl, hr, cr⟩, hx⟩]) = xs ++ [⟨vl, vr, isL, isR⟩] := by rw [plC_snoc, ← hxse]
      have HPM := Lib.hid hpm2
      obtain ⟨ys, hys⟩ : ∃ ys, ys = diffSet xs := ⟨_, rfl⟩
      have Hys := Lib.hid hys
      rw [← hys] at irow
      obtain ⟨zs, hzs⟩ : ∃ zs, zs = diffGone xs := ⟨_, rfl⟩
      have Hzs := Lib.hid hzs
      rw [← hzs] at igr
      have Hlim : Hid (ys.length ≤ 1000) := Lib.hid (by rw [hys]; exact Nat.le_trans (List.length_filterMap_le _ _) (by omega))
      have Hlim2 : Hid (zs.length ≤ 1000) := Lib.hid (by rw [hzs]; exact Nat.le_trans (List.length_filterMap_le _ _) (by omega))
      obtain ⟨At, ct, hvt⟩ := Kd.R_slice irow
      obtain ⟨nt, hnt⟩ : ∃ nt, nt = ys.length := ⟨_, rfl⟩
      rw [← hnt] at hvt
      subst hvt
      obtain ⟨Ag, cg, hvg⟩ := Kd.R_slice igr
      obtain ⟨ng, hng⟩ : ∃ ng, ng = zs.length := ⟨_, rfl⟩
      rw [← hng] at hvg
      subst hvg
      clear HT G2 HX1 HX2 HX3
      have HT := Lib.hid it
      have HO := Lib.hid irow
      have HGr := Lib.hid igr
      have HBV := Lib.hid ib
      have HBW := Lib.hid ib
      have HSV := Lib.hid isz
      have HLW := Lib.hid isz
      have HI2 := Lib.hid i2
      have HPx := Lib.hid hbx
      have HMEM := Lib.hid hmem
      obtain ⟨nl, hnl⟩ : ∃ nl, nl = vl.f1.length := ⟨_, rfl⟩
      obtain ⟨nr, hnr⟩ : ∃ nr, nr = vr.f1.length := ⟨_, rfl⟩
      have Hnl := Lib.hid hnl
      have Hnr := Lib.hid hnr
      have CL := Lib.hid (And.intro cl hl)
      have CR := Lib.hid (And.intro cr hr)
      rw [← hnl, ← hnr] at HPx ⊢
      have HLT : Hid (w.heap.size ≤ w4.heap.size ∧ w.heap.size ≤ bd ∧ g2 ≠ bd) := Lib.hid (by have := HS4.out; have := HTF.out; have := HE.out; have := hc0.size; omega)
      clear it irow igr ib isz i2 hbx hmem hlim hxs hys hzs hnt hng hnl hnr hpm2
      refine wpIn_block (wpIn_block (wpIn_seq ?_))
      cases isR with
      | false =>
        have p5 : W.cell? ⟨b, 5, none⟩ = some (.bool false) := blk_at HPx.out 5 rfl
        refine regF_ (free_round l) (by kernel_rfl) (by rintro ⟨_, _, h⟩; exact h) ?_
        go_wp2_with (fail)
        clear p5
        refine wpIn_cond_true rfl ?_
        have p0 : W.cell? ⟨b, 0, none⟩ = some (.string vl.f0) := blk_at HPx.out 0 rfl
        have t2 : W.cell? ⟨bd, 2, none⟩ = some (.slice Ag ng cg) := blk_at HT.out 2 rfl
        refine regF_ (free_round l) (by kernel_rfl) (by rintro ⟨_, _, h⟩; exact h) ?_
        go_wp2_with (at_builtin; refine Kd.R_append Kd.string (w0 := W) w4.heap.size rfl (.tmp 36) (.tmp 40) 25 9 (.string ⟨#[]⟩) 16 rfl Try.underlying25 info9 rfl (by decide) (by decide) (.slice Ag ng cg) zs vl.f0 _ (fun _ => True) (fun _ => False) rfl rfl ?hp (fun _ h => h.elim) (fun _ _ => trivial) HGr.out (Below.refl _ _) ?hS ?hl ?_
                     case hp => exact rfl
                     case hS => exact HSV.out
                     case hl => have := Hlim2.out; omega
                     intro v1 w5 hO5 hB5 hg5 hat5
                     have HT5 := Lib.hid (blk_grown HT.out hg5 (Kd.R_ne HGr.out HT.out (by decide)))
                     have HF5 : Hid (Oth w4.heap.size bd 9 W w5) := Lib.hid (Oth.grown hg5 (fun k hk => ⟨Kd.R_base HGr.out k hk, Kd.R_typed HGr.out k hk⟩))
                     have HO5 := Lib.hid hO5
                     obtain ⟨A5, c5, hv5⟩ := Kd.R_slice hO5
                     obtain ⟨m5, hm5⟩ : ∃ m5, m5 = (zs ++ [vl.f0]).length := ⟨_, rfl⟩
                     rw [← hm5] at hv5
                     subst hv5
                     have y2 : w5.cell? ⟨bd, 2, none⟩ = some (.slice Ag ng cg) := blk_at HT5.out 2 rfl
                     have y3 : w5.frozen? ⟨bd, 2, none⟩ = false := blk_frozen HT5.out 2
                     clear hO5 hB5 hg5 hat5 hm5)
        have HT9 : Hid ((w5.setCell ⟨bd, 2, none⟩ (.slice A5 m5 c5)).heap[bd]? = some (.cells #[.int .i64 bn, .slice At nt ct, .slice A5 m5 c5] 27 (0, 0))) := blk_put HT5.out 2 _ rfl
        have HO9 := Lib.hid (Kd.R_set HO5.out HT5.out (by decide) 2 (.slice A5 m5 c5))
        have HF9 : Hid (Oth w4.heap.size bd 9 W (w5.setCell ⟨bd, 2, none⟩ (.slice A5 m5 c5))) := HF5.out.trans (Oth.set 2 _)
        refine ⟨HF9.out.rnd rfl HSV.out HT.out, Eq.mpr (congrArg (fun z => IDf w w4.heap.size bd g2 bn z (w5.setCell ⟨bd, 2, none⟩ (.slice A5 m5 c5))) HPM.out) ⟨HF9.out.below HBV.out HLT.out.1 HLT.out.2.1, Nat.le_trans HSV.out HF9.out.size, ⟨_, _, HT9.out, ?_, ?_⟩, HF9.out.blk HI2.out HLT.out.2.2 (by decide)⟩⟩
        · have h9 := HF9.out.row HO.out (by decide) HT.out (by decide)
          unfold diffSet
          rw [filterMap_snoc, show diffKeepC ⟨vl, vr, isL, false⟩ = none from rfl]
          rw [Hys.out] at h9
          exact h9
        · unfold diffGone
          rw [filterMap_snoc, show diffKeepG ⟨vl, vr, isL, false⟩ = some vl.f0 from rfl]
          have h9 := HO9.out
          rw [Hzs.out] at h9
          exact h9
      | true =>
        have p5 : W.cell? ⟨b, 5, none⟩ = some (.bool true) := blk_at HPx.out 5 rfl
        refine regF_ (free_round l) (by kernel_rfl) (by rintro ⟨_, _, h⟩; exact h) ?_
        go_wp2_with (fail)
        clear p5
        refine wpIn_cond_false rfl (wpIn_seq ?_)
        have HOR := Lib.hid (chkCells_ok bs none HOB.out.2.1 vr (HMEM.out.2.1 (by first | rfl | trivial)))
        have HCP : Hid (∀ V, Below w.heap.size w V → Calls Try.prog 37 #[.agg #[.string vr.f0, .slice ra nr rc]] V fun e w' => Copied vr V e w') := Lib.hid (fun V hV => by rw [Hnr.out]; exact copied37 vr ra rc V (Kd.C_below CR.out.1 hV) CR.out.2 HOR.out)
        have Hnc := Hnr
        cases isL with
        | false =>
          have p4 : W.cell? ⟨b, 4, none⟩ = some (.bool false) := blk_at HPx.out 4 rfl
          refine regF_ (free_round l) (by kernel_rfl) (by rintro ⟨_, _, h⟩; exact h) ?_
          go_wp2_with (fail)
          clear p4
          refine wpIn_cond_true rfl ?_
          have HKP : Hid (diffKeepC ⟨vl, vr, false, true⟩ = some vr) := Lib.hid (by unfold diffKeepC; simp)
          refine startIn_ (m := 9) (S := (fun w' => w'.cell? ⟨bd, 1, none⟩ = some (.slice At nt ct) ∧ w'.cell? ⟨b, 2, none⟩ = some (.string vr.f0) ∧ w'.cell? ⟨b, 3, none⟩ = some (.slice ra nr rc))) (ds := [8]) (free_round _) (by kernel_rfl) (by rintro ⟨_, _, h⟩; exact h) #[false, false, false, false, false, false, false, false, false] (by kernel_rfl) rfl rfl ⟨blk_at HT.out 1 rfl, blk_at HPx.out 2 rfl, blk_at HPx.out 3 rfl⟩ (fun hHeld => ?_)
          have HTd : Hid (W.drew.heap[bd]? = some (.cells #[.int .i64 bn, .slice At nt ct, .slice Ag ng cg] 27 (0, 0))) := HT.out
          have HPd : Hid (W.drew.heap[b]? = some (.cells #[.string vl.f0, .slice la nl lc, .string vr.f0, .slice ra nr rc, .bool false, .bool true] 71 (0, 0))) := HPx.out
          have HOd := Lib.hid (Kd.R_drew HO.out)
          have HBd : Hid (Below w.heap.size w W.drew) := HBW.out.drew
          have HLd : Hid (w4.heap.size ≤ W.drew.heap.size) := HLW.out
          have HFd : Hid (Oth w4.heap.size bd 63 W W.drew) := Oth.of_below (Below.refl _ _).drew
          generalize W.drew = Wd at hHeld HTd HPd HOd HBd HLd HFd ⊢
          refine pure_ (i := 0) (N := some 55) (v := ?_) (a' := ?_) #[true, false, false, false, false, false, false, false, false] rfl rfl (by kernel_rfl) (fun _ _ _ h => h) (Or.inl ⟨by rfl, ?_⟩) ?_ ?_
          rotate_left
          · intro w'
            go_simp
            with_reducible rfl
          rotate_left
          · go_simp
            rfl
          refine take_ (i := 1) (N := some 56) (v := ?_) (a' := ?_) #[true, true, false, false, false, false, false, false, false] rfl rfl (by kernel_rfl) (fun _ _ _ h => h) (Or.inl ⟨by rfl, ?_⟩) hHeld ?_ ?_
          rotate_left
          · rintro w' ⟨s0, s1, s2⟩
            go_simp
            with_reducible rfl
          rotate_left
          · go_simp
            rfl
          refine pure_ (i := 2) (N := some 57) (v := ?_) (a' := ?_) #[true, true, true, false, false, false, false, false, false] rfl rfl (by kernel_rfl) (fun _ _ _ h => h) (Or.inl ⟨by rfl, ?_⟩) ?_ ?_
          rotate_left
          · intro w'
            go_simp
            with_reducible rfl
          rotate_left
          · go_simp
            rfl
          refine take_ (i := 3) (N := some 58) (v := ?_) (a' := ?_) #[true, true, true, true, false, false, false, false, false] rfl rfl (by kernel_rfl) (fun _ _ _ h => h) (Or.inl ⟨by rfl, ?_⟩) hHeld ?_ ?_
          rotate_left
          · rintro w' ⟨s0, s1, s2⟩
            go_simp
            with_reducible rfl
          rotate_left
          · go_simp
            rfl
          refine one_ (i := 4) (N := some 59) #[true, true, true, true, true, false, false, false, false] rfl rfl (by kernel_rfl) (by decide) (fun K hK => ?_)
          refine goes_ Try.func37 (by kernel_rfl) rfl #[.agg #[.string vr.f0, .slice ra nr rc]] (by rfl) rfl rfl (by simp only [List.map_toArray, List.map_cons, List.map_nil]; rfl) ?_
          refine (HCP.out Wd HBd.out).mono ?_
          rintro e W1 ⟨v, rfl, hv, hb⟩
          obtain ⟨Av, cv, hvv⟩ := Kd.R_slice hv.out
          rw [← Hnc.out] at hvv
          subst hvv
          refine ⟨_, rfl, ?_⟩
          have HT1 := Lib.hid (blk_below HTd.out hb.out)
          have HP1 := Lib.hid (blk_below HPd.out hb.out)
          have HO1 := Lib.hid (Kd.R_below HOd.out hb.out)
          have HF1 : Hid (Oth w4.heap.size bd 63 W W1) := HFd.out.trans (Oth.of_below hb.out)
          have HV1 := Lib.hid hv.out
          have HL1 := Lib.hid hb.out.size
          refine hK.out _ _ ⟨blk_at HT1.out 1 rfl, blk_at HP1.out 2 rfl, blk_at HP1.out 3 rfl⟩ (fun hHeld => ?_)
          clear hK K hb hv HTd HPd HFd HBd
          refine norm_ (a' := ?_) ?_ ?_
          rotate_left
          · show Act.put _ (some 59) _ = _
            go_simp
            rfl
          refine one_ (i := 5) (N := some 60) #[true, true, true, true, true, true, false, false, false] rfl rfl (by kernel_rfl) (by decide) (fun K hK => ?_)
          refine value_ (w1 := (W1.alloc (.cells [.string vr.f0, .slice Av nr cv].toArray 63))) (v := .slice (some ⟨W1.heap.size, 0, none⟩) 1 1) (by rfl) rfl (by go_simp) ?_
          refine hK.out _ _ ⟨pw_cell_below ((Below.refl _ _).alloc (Nat.le_refl _) _) hHeld.1, pw_cell_below ((Below.refl _ _).alloc (Nat.le_refl _) _) hHeld.2.1, pw_cell_below ((Below.refl _ _).alloc (Nat.le_refl _) _) hHeld.2.2⟩ (fun hHeld => ?_)
          clear hK K
          refine norm_ (a' := ?_) ?_ ?_
          rotate_left
          · show Act.put _ (some 60) _ = _
            go_simp
            rfl
          refine one_ (i := 6) (N := some 61) #[true, true, true, true, true, true, true, false, false] rfl rfl (by kernel_rfl) (by decide) (fun K hK => ?_)
          refine Kd.R_append_step k63 (w0 := W1) w4.heap.size (by rfl) (.tmp 56) (.tmp 60) 22 63 (.agg #[.string ⟨#[]⟩, .slice none 0 0]) 40 rfl Try.underlying22 info63' rfl (by decide) (by decide) (.slice At nt ct) ys vr _ (fun _ => True) (fun k => Wd.heap.size ≤ k) rfl rfl ?hp ?hok (fun _ _ => trivial) HO1.out (Below.refl _ _) ?hS ?hl ?_
          case hp => exact k63_mkM _ _ _ vr (Kd.R_lower (Kd.R_mono (Kd.R_bound HV1.out) (fun k hk => hk.2.1)) HLd.out)
          case hok => exact fun k hk => ⟨trivial, fun he => by have := Kd.R_lt HOd.out k he.symm; omega⟩
          case hS => exact Nat.le_trans HLd.out HL1.out
          case hl => have := Hlim.out; omega
          intro v1 W2 hO2 hB2 hg2 hat2
          have HF2 : Hid (Oth w4.heap.size bd 63 W W2) := HF1.out.trans (Oth.grown hg2 (fun k hk => ⟨Kd.R_base HO1.out k hk, Kd.R_typed HO1.out k hk⟩))
          have HT2 := Lib.hid (blk_grown HT1.out hg2 (Kd.R_ne HO1.out HT1.out (by decide)))
          have HP2 := Lib.hid (blk_grown HP1.out hg2 (Kd.R_ne HO1.out HP1.out (by decide)))
          obtain ⟨A2, c2, hv2⟩ := Kd.R_slice hO2
          obtain ⟨m2, hm2⟩ : ∃ m2, m2 = (ys ++ [vr]).length := ⟨_, rfl⟩
          rw [← hm2] at hv2
          subst hv2
          have Hm2 := Lib.hid hm2
          have HO2 := Lib.hid hO2
          refine hK.out _ _ ⟨blk_at HT2.out 1 rfl, blk_at HP2.out 2 rfl, blk_at HP2.out 3 rfl⟩ (fun hHeld => ?_)
          clear hK K hO2 hB2 hg2 hat2 hm2 HT1 HP1 HO1 HF1 HV1 HL1 HOd HLd
          refine norm_ (a' := ?_) ?_ ?_
          rotate_left
          · show Act.put _ (some 61) _ = _
            go_simp
            rfl
          refine pure_ (i := 7) (N := some 62) (v := ?_) (a' := ?_) #[true, true, true, true, true, true, true, true, false] rfl rfl (by kernel_rfl) (fun _ _ _ h => h) (Or.inl ⟨by rfl, ?_⟩) ?_ ?_
          rotate_left
          · intro w'
            go_simp
            with_reducible rfl
          rotate_left
          · go_simp
            rfl
          refine last_ (i := 8) (N := none) #[true, true, true, true, true, true, true, true, true] rfl rfl (by kernel_rfl) (by decide) (fun K hK => ?_)
          have x1 : W2.cell? ⟨bd, 1, none⟩ = some (.slice At nt ct) := blk_at HT2.out 1 rfl
          have z1 : W2.frozen? ⟨bd, 1, none⟩ = false := blk_frozen HT2.out 1
          refine skip_ (w1 := W2.setCell ⟨bd, 1, none⟩ (.slice A2 m2 c2)) (by rfl) rfl (by go_simp) ?_
          clear x1 z1
          refine hK.out _ _ ?_
          have HT9 : Hid ((W2.setCell ⟨bd, 1, none⟩ (.slice A2 m2 c2)).heap[bd]? = some (.cells #[.int .i64 bn, .slice A2 m2 c2, .slice Ag ng cg] 27 (0, 0))) := blk_put HT2.out 1 _ rfl
          have HO9 := Lib.hid (Kd.R_set HO2.out HT2.out (by decide) 1 (.slice A2 m2 c2))
          have HF9 : Hid (Oth w4.heap.size bd 63 W (W2.setCell ⟨bd, 1, none⟩ (.slice A2 m2 c2))) := HF2.out.trans (Oth.set 1 _)
          clear hK K HT2 HP2 HO2 HF2 hHeld
          generalize W2.setCell ⟨bd, 1, none⟩ (.slice A2 m2 c2) = W9 at *
          refine done_ (by kernel_rfl) ?_
          refine ⟨HF9.out.rnd rfl HSV.out HT.out, Eq.mpr (congrArg (fun z => IDf w w4.heap.size bd g2 bn z W9) HPM.out) ⟨HF9.out.below HBV.out HLT.out.1 HLT.out.2.1, Nat.le_trans HSV.out HF9.out.size, ⟨_, _, HT9.out, ?_, ?_⟩, HF9.out.blk HI2.out HLT.out.2.2 (by decide)⟩⟩
          · unfold diffSet
            rw [filterMap_snoc, HKP.out]
            have h9 := HO9.out
            rw [Hys.out] at h9
            exact h9
          · have h9 := HF9.out.row HGr.out (by decide) HT.out (by decide)
            unfold diffGone
            rw [filterMap_snoc, show diffKeepG ⟨vl, vr, false, true⟩ = none from rfl]
            rw [Hzs.out] at h9
            exact h9
        | true =>
          have HOL := Lib.hid (chkCells_ok as_ none HOA.out.2.1 vl (HMEM.out.1 (by first | rfl | trivial)))
          have HSM : Hid (Calls Try.prog 45 #[.agg #[.string vl.f0, .slice la nl lc], .agg #[.string vr.f0, .slice ra nr rc]] W fun e w' => SaysB (sameC vl vr) W e w') := Lib.hid (by rw [Hnl.out, Hnr.out]; exact same45 vl vr la ra lc rc w W CL.out.1 CR.out.1 HBV.out HOL.out HOR.out)
          have p0 : W.cell? ⟨b, 0, none⟩ = some (.string vl.f0) := blk_at HPx.out 0 rfl
          have p1 : W.cell? ⟨b, 1, none⟩ = some (.slice la nl lc) := blk_at HPx.out 1 rfl
          have p2 : W.cell? ⟨b, 2, none⟩ = some (.string vr.f0) := blk_at HPx.out 2 rfl
          have p3 : W.cell? ⟨b, 3, none⟩ = some (.slice ra nr rc) := blk_at HPx.out 3 rfl
          have p4 : W.cell? ⟨b, 4, none⟩ = some (.bool true) := blk_at HPx.out 4 rfl
          generalize hsc : sameC vl vr = sc at HSM
          have HSC := Lib.hid hsc
          clear hsc
          refine regF_ (free_round l) (by kernel_rfl) (by rintro ⟨_, _, h⟩; exact h) ?_
          go_wp2_with (go_at_call 45; refine HSM.out.mono ?_; rintro e w5 ⟨rfl, hb5⟩
                       have HB5 := Lib.hid hb5.out
                       clear hb5)
          clear p0 p1 p2 p3 p4 HSM
          have hlw : W.heap.size ≤ w5.heap.size := HB5.out.size
          have HRW : Hid (Rnd w4.heap.size (fun k => k = bd) W w5) := Lib.hid (Rnd.of_below HB5.out HSV.out)
          replace HT := Lib.hid (blk_below HT.out HB5.out)
          replace HO := Lib.hid (Kd.R_below HO.out HB5.out)
          replace HGr := Lib.hid (Kd.R_below HGr.out HB5.out)
          replace HBV : Hid (Below w.heap.size w w5) := HBV.out.trans (HB5.out.mono HBV.out.size)
          replace HBW : Hid (Below w.heap.size w w5) := HBV
          replace HSV : Hid (w4.heap.size ≤ w5.heap.size) := Lib.hid (Nat.le_trans HSV.out hlw)
          replace HLW : Hid (w4.heap.size ≤ w5.heap.size) := HSV
          replace HI2 := Lib.hid (blk_below HI2.out HB5.out)
          replace HPx := Lib.hid (blk_below HPx.out HB5.out)
          clear hlw HB5
          cases sc with
          | false =>
            refine wpIn_cond_true rfl ?_
            have HKP : Hid (diffKeepC ⟨vl, vr, true, true⟩ = some vr) := Lib.hid (by unfold diffKeepC; simp [HSC.out])
            refine startIn_ (m := 9) (S := (fun w' => w'.cell? ⟨bd, 1, none⟩ = some (.slice At nt ct) ∧ w'.cell? ⟨b, 2, none⟩ = some (.string vr.f0) ∧ w'.cell? ⟨b, 3, none⟩ = some (.slice ra nr rc))) (ds := [8]) (free_round _) (by kernel_rfl) (by rintro ⟨_, _, h⟩; exact h) #[false, false, false, false, false, false, false, false, false] (by kernel_rfl) rfl rfl ⟨blk_at HT.out 1 rfl, blk_at HPx.out 2 rfl, blk_at HPx.out 3 rfl⟩ (fun hHeld => ?_)
            have HTd : Hid (w5.drew.heap[bd]? = some (.cells #[.int .i64 bn, .slice At nt ct, .slice Ag ng cg] 27 (0, 0))) := HT.out
            have HPd : Hid (w5.drew.heap[b]? = some (.cells #[.string vl.f0, .slice la nl lc, .string vr.f0, .slice ra nr rc, .bool true, .bool true] 71 (0, 0))) := HPx.out
            have HOd := Lib.hid (Kd.R_drew HO.out)
            have HBd : Hid (Below w.heap.size w w5.drew) := HBW.out.drew
            have HLd : Hid (w4.heap.size ≤ w5.drew.heap.size) := HLW.out
            have HFd : Hid (Oth w4.heap.size bd 63 w5 w5.drew) := Oth.of_below (Below.refl _ _).drew
            generalize w5.drew = Wd at hHeld HTd HPd HOd HBd HLd HFd ⊢
            refine pure_ (i := 0) (N := some 55) (v := ?_) (a' := ?_) #[true, false, false, false, false, false, false, false, false] rfl rfl (by kernel_rfl) (fun _ _ _ h => h) (Or.inl ⟨by rfl, ?_⟩) ?_ ?_
            rotate_left
            · intro w'
              go_simp
              with_reducible rfl
            rotate_left
            · go_simp
              rfl
            refine take_ (i := 1) (N := some 56) (v := ?_) (a' := ?_) #[true, true, false, false, false, false, false, false, false] rfl rfl (by kernel_rfl) (fun _ _ _ h => h) (Or.inl ⟨by rfl, ?_⟩) hHeld ?_ ?_
            rotate_left
            · rintro w' ⟨s0, s1, s2⟩
              go_simp
              with_reducible rfl
            rotate_left
            · go_simp
              rfl
            refine pure_ (i := 2) (N := some 57) (v := ?_) (a' := ?_) #[true, true, true, false, false, false, false, false, false] rfl rfl (by kernel_rfl) (fun _ _ _ h => h) (Or.inl ⟨by rfl, ?_⟩) ?_ ?_
            rotate_left
            · intro w'
              go_simp
              with_reducible rfl
            rotate_left
            · go_simp
              rfl
            refine take_ (i := 3) (N := some 58) (v := ?_) (a' := ?_) #[true, true, true, true, false, false, false, false, false] rfl rfl (by kernel_rfl) (fun _ _ _ h => h) (Or.inl ⟨by rfl, ?_⟩) hHeld ?_ ?_
            rotate_left
            · rintro w' ⟨s0, s1, s2⟩
              go_simp
              with_reducible rfl
            rotate_left
            · go_simp
              rfl
            refine one_ (i := 4) (N := some 59) #[true, true, true, true, true, false, false, false, false] rfl rfl (by kernel_rfl) (by decide) (fun K hK => ?_)
            refine goes_ Try.func37 (by kernel_rfl) rfl #[.agg #[.string vr.f0, .slice ra nr rc]] (by rfl) rfl rfl (by simp only [List.map_toArray, List.map_cons, List.map_nil]; rfl) ?_
            refine (HCP.out Wd HBd.out).mono ?_
            rintro e W1 ⟨v, rfl, hv, hb⟩
            obtain ⟨Av, cv, hvv⟩ := Kd.R_slice hv.out
            rw [← Hnc.out] at hvv
            subst hvv
            refine ⟨_, rfl, ?_⟩
            have HT1 := Lib.hid (blk_below HTd.out hb.out)
            have HP1 := Lib.hid (blk_below HPd.out hb.out)
            have HO1 := Lib.hid (Kd.R_below HOd.out hb.out)
            have HF1 : Hid (Oth w4.heap.size bd 63 w5 W1) := HFd.out.trans (Oth.of_below hb.out)
            have HV1 := Lib.hid hv.out
            have HL1 := Lib.hid hb.out.size
            refine hK.out _ _ ⟨blk_at HT1.out 1 rfl, blk_at HP1.out 2 rfl, blk_at HP1.out 3 rfl⟩ (fun hHeld => ?_)
            clear hK K hb hv HTd HPd HFd HBd
            refine norm_ (a' := ?_) ?_ ?_
            rotate_left
            · show Act.put _ (some 59) _ = _
              go_simp
              rfl
            refine one_ (i := 5) (N := some 60) #[true, true, true, true, true, true, false, false, false] rfl rfl (by kernel_rfl) (by decide) (fun K hK => ?_)
            refine value_ (w1 := (W1.alloc (.cells [.string vr.f0, .slice Av nr cv].toArray 63))) (v := .slice (some ⟨W1.heap.size, 0, none⟩) 1 1) (by rfl) rfl (by go_simp) ?_
            refine hK.out _ _ ⟨pw_cell_below ((Below.refl _ _).alloc (Nat.le_refl _) _) hHeld.1, pw_cell_below ((Below.refl _ _).alloc (Nat.le_refl _) _) hHeld.2.1, pw_cell_below ((Below.refl _ _).alloc (Nat.le_refl _) _) hHeld.2.2⟩ (fun hHeld => ?_)
            clear hK K
            refine norm_ (a' := ?_) ?_ ?_
            rotate_left
            · show Act.put _ (some 60) _ = _
              go_simp
              rfl
            refine one_ (i := 6) (N := some 61) #[true, true, true, true, true, true, true, false, false] rfl rfl (by kernel_rfl) (by decide) (fun K hK => ?_)
            refine Kd.R_append_step k63 (w0 := W1) w4.heap.size (by rfl) (.tmp 56) (.tmp 60) 22 63 (.agg #[.string ⟨#[]⟩, .slice none 0 0]) 40 rfl Try.underlying22 info63' rfl (by decide) (by decide) (.slice At nt ct) ys vr _ (fun _ => True) (fun k => Wd.heap.size ≤ k) rfl rfl ?hp ?hok (fun _ _ => trivial) HO1.out (Below.refl _ _) ?hS ?hl ?_
            case hp => exact k63_mkM _ _ _ vr (Kd.R_lower (Kd.R_mono (Kd.R_bound HV1.out) (fun k hk => hk.2.1)) HLd.out)
            case hok => exact fun k hk => ⟨trivial, fun he => by have := Kd.R_lt HOd.out k he.symm; omega⟩
            case hS => exact Nat.le_trans HLd.out HL1.out
            case hl => have := Hlim.out; omega
            intro v1 W2 hO2 hB2 hg2 hat2
            have HF2 : Hid (Oth w4.heap.size bd 63 w5 W2) := HF1.out.trans (Oth.grown hg2 (fun k hk => ⟨Kd.R_base HO1.out k hk, Kd.R_typed HO1.out k hk⟩))
            have HT2 := Lib.hid (blk_grown HT1.out hg2 (Kd.R_ne HO1.out HT1.out (by decide)))
            have HP2 := Lib.hid (blk_grown HP1.out hg2 (Kd.R_ne HO1.out HP1.out (by decide)))
            obtain ⟨A2, c2, hv2⟩ := Kd.R_slice hO2
            obtain ⟨m2, hm2⟩ : ∃ m2, m2 = (ys ++ [vr]).length := ⟨_, rfl⟩
            rw [← hm2] at hv2
            subst hv2
            have Hm2 := Lib.hid hm2
            have HO2 := Lib.hid hO2
            refine hK.out _ _ ⟨blk_at HT2.out 1 rfl, blk_at HP2.out 2 rfl, blk_at HP2.out 3 rfl⟩ (fun hHeld => ?_)
            clear hK K hO2 hB2 hg2 hat2 hm2 HT1 HP1 HO1 HF1 HV1 HL1 HOd HLd
            refine norm_ (a' := ?_) ?_ ?_
            rotate_left
            · show Act.put _ (some 61) _ = _
              go_simp
              rfl
            refine pure_ (i := 7) (N := some 62) (v := ?_) (a' := ?_) #[true, true, true, true, true, true, true, true, false] rfl rfl (by kernel_rfl) (fun _ _ _ h => h) (Or.inl ⟨by rfl, ?_⟩) ?_ ?_
            rotate_left
            · intro w'
              go_simp
              with_reducible rfl
            rotate_left
            · go_simp
              rfl
            refine last_ (i := 8) (N := none) #[true, true, true, true, true, true, true, true, true] rfl rfl (by kernel_rfl) (by decide) (fun K hK => ?_)
            have x1 : W2.cell? ⟨bd, 1, none⟩ = some (.slice At nt ct) := blk_at HT2.out 1 rfl
            have z1 : W2.frozen? ⟨bd, 1, none⟩ = false := blk_frozen HT2.out 1
            refine skip_ (w1 := W2.setCell ⟨bd, 1, none⟩ (.slice A2 m2 c2)) (by rfl) rfl (by go_simp) ?_
            clear x1 z1
            refine hK.out _ _ ?_
            have HT9 : Hid ((W2.setCell ⟨bd, 1, none⟩ (.slice A2 m2 c2)).heap[bd]? = some (.cells #[.int .i64 bn, .slice A2 m2 c2, .slice Ag ng cg] 27 (0, 0))) := blk_put HT2.out 1 _ rfl
            have HO9 := Lib.hid (Kd.R_set HO2.out HT2.out (by decide) 1 (.slice A2 m2 c2))
            have HF9 : Hid (Oth w4.heap.size bd 63 w5 (W2.setCell ⟨bd, 1, none⟩ (.slice A2 m2 c2))) := HF2.out.trans (Oth.set 1 _)
            clear hK K HT2 HP2 HO2 HF2 hHeld
            generalize W2.setCell ⟨bd, 1, none⟩ (.slice A2 m2 c2) = W9 at *
            refine done_ (by kernel_rfl) ?_
            refine ⟨HRW.out.trans (HF9.out.rnd rfl HSV.out HT.out), Eq.mpr (congrArg (fun z => IDf w w4.heap.size bd g2 bn z W9) HPM.out) ⟨HF9.out.below HBV.out HLT.out.1 HLT.out.2.1, Nat.le_trans HSV.out HF9.out.size, ⟨_, _, HT9.out, ?_, ?_⟩, HF9.out.blk HI2.out HLT.out.2.2 (by decide)⟩⟩
            · unfold diffSet
              rw [filterMap_snoc, HKP.out]
              have h9 := HO9.out
              rw [Hys.out] at h9
              exact h9
            · have h9 := HF9.out.row HGr.out (by decide) HT.out (by decide)
              unfold diffGone
              rw [filterMap_snoc, show diffKeepG ⟨vl, vr, true, true⟩ = none from rfl]
              rw [Hzs.out] at h9
              exact h9
          | true =>
            refine wpIn_cond_false rfl (wpIn_skip ?_)
            have HKP : Hid (diffKeepC ⟨vl, vr, true, true⟩ = none) := Lib.hid (by unfold diffKeepC; simp [HSC.out])
            refine ⟨HRW.out, Eq.mpr (congrArg (fun z => IDf w w4.heap.size bd g2 bn z w5) HPM.out) ⟨HBV.out, HSV.out, ⟨_, _, HT.out, ?_, ?_⟩, HI2.out⟩⟩
            · unfold diffSet
              rw [filterMap_snoc, HKP.out]
              have h9 := HO.out
              rw [Hys.out] at h9
              exact h9
            · unfold diffGone
              rw [filterMap_snoc, show diffKeepG ⟨vl, vr, true, true⟩ = none from rfl]
              have h9 := HGr.out
              rw [Hzs.out] at h9
              exact h9
  case done =>
    intro D xs W hD hS hI hK
    have hxs : plC xs = mrgC as_ bs := hS
    rw [hxs] at hI
    obtain ⟨ib, isz, ⟨vs, vg, it, irow, igr⟩, i2⟩ := hI
    obtain ⟨ys, hys⟩ : ∃ ys, ys = diffSet (mrgC as_ bs) := ⟨_, rfl⟩
    obtain ⟨zs, hzs⟩ : ∃ zs, zs = diffGone (mrgC as_ bs) := ⟨_, rfl⟩
    have HR : Hid (diffP an as_ bn bs = (bn, ys, zs, 0)) := Lib.hid (by unfold diffP; rw [if_neg (by rw [HZ1.out]; simp), if_neg (by rw [HZ2.out]; simp), ← hys, ← hzs])
    rw [← hys] at irow
    rw [← hzs] at igr
    obtain ⟨At, ct, hvt⟩ := Kd.R_slice irow
    obtain ⟨nt, hnt⟩ : ∃ nt, nt = ys.length := ⟨_, rfl⟩
    rw [← hnt] at hvt
    subst hvt
    obtain ⟨Ag, cg, hvg⟩ := Kd.R_slice igr
    obtain ⟨ng, hng⟩ : ∃ ng, ng = zs.length := ⟨_, rfl⟩
    rw [← hng] at hvg
    subst hvg
    have HBW := Lib.hid ib
    have HI2 := Lib.hid i2
    have HO := Lib.hid irow
    have HGr := Lib.hid igr
    have HK := Lib.hid hK
    have hg2 : w.heap.size ≤ g2 ∧ g2 < w4.heap.size ∧ g2 ≠ bd := by have := HS4.out; have := HTF.out; have := HE.out; omega
    have c0 : W.cell? ⟨bd, 0, none⟩ = some (.int .i64 bn) := blk_at it 0 rfl
    have c1 : W.cell? ⟨bd, 1, none⟩ = some (.slice At nt ct) := blk_at it 1 rfl
    have c2 : W.cell? ⟨bd, 2, none⟩ = some (.slice Ag ng cg) := blk_at it 2 rfl
    have c4 : W.cell? ⟨g2, 0, none⟩ = some (.int .i64 0) := blk_at i2 0 rfl
    have c5 : W.cell? ⟨g2, 1, none⟩ = some (.slice none 0 0) := blk_at i2 1 rfl
    have c6 : W.cell? ⟨g2, 2, none⟩ = some (.slice none 0 0) := blk_at i2 2 rfl
    have z4 : W.frozen? ⟨g2, 0, none⟩ = false := blk_frozen i2 0
    have z5 : W.frozen? ⟨g2, 1, none⟩ = false := blk_frozen i2 1
    have z6 : W.frozen? ⟨g2, 2, none⟩ = false := blk_frozen i2 2
    clear hys hzs hnt hng ib isz it irow igr i2 hxs hS hK
    go_wp2_with (fail)
    have hb4 : (((W.setCell ⟨g2, 0, none⟩ (.int .i64 bn)).setCell ⟨g2, 1, none⟩ (.slice At nt ct)).setCell ⟨g2, 2, none⟩ (.slice Ag ng cg)).heap[g2]? = some (.cells #[.int .i64 bn, .slice At nt ct, .slice Ag ng cg] 27 (0, 0)) := blk_put (blk_put (blk_put HI2.out 0 _ rfl) 1 _ rfl) 2 _ rfl
    have hK4 : (((W.setCell ⟨g2, 0, none⟩ (.int .i64 bn)).setCell ⟨g2, 1, none⟩ (.slice At nt ct)).setCell ⟨g2, 2, none⟩ (.slice Ag ng cg)).heap[D]? = some (.deferred (some [])) := (Below.heap_setCell _ _ _ _ (show D ≠ g2 by omega)).trans ((Below.heap_setCell _ _ _ _ (show D ≠ g2 by omega)).trans ((Below.heap_setCell _ _ _ _ (show D ≠ g2 by omega)).trans HK.out))
    have hb5 : ((((W.setCell ⟨g2, 0, none⟩ (.int .i64 bn)).setCell ⟨g2, 1, none⟩ (.slice At nt ct)).setCell ⟨g2, 2, none⟩ (.slice Ag ng cg)).putObj D (.deferred none)).heap[g2]? = some (.cells #[.int .i64 bn, .slice At nt ct, .slice Ag ng cg] 27 (0, 0)) := (World.putObj_heap_other (by omega)).trans hb4
    have ht5 : Turn w4.heap.size (((W.setCell ⟨g2, 0, none⟩ (.int .i64 bn)).setCell ⟨g2, 1, none⟩ (.slice At nt ct)).setCell ⟨g2, 2, none⟩ (.slice Ag ng cg)) ((((W.setCell ⟨g2, 0, none⟩ (.int .i64 bn)).setCell ⟨g2, 1, none⟩ (.slice At nt ct)).setCell ⟨g2, 2, none⟩ (.slice Ag ng cg)).putObj D (.deferred none)) := Turn.of (grownBy_putObj' _ D _) (fun r e => by cases e; exact ⟨hD, _, hK4, rfl⟩)
    have hw5 : Below w.heap.size w ((((W.setCell ⟨g2, 0, none⟩ (.int .i64 bn)).setCell ⟨g2, 1, none⟩ (.slice At nt ct)).setCell ⟨g2, 2, none⟩ (.slice Ag ng cg)).putObj D (.deferred none)) := Below.turn (((HBW.out.setCell (show w.heap.size ≤ g2 by omega) _).setCell (show w.heap.size ≤ g2 by omega) _).setCell (show w.heap.size ≤ g2 by omega) _) ht5 hc0.size
    refine bodyD_one rfl hK4 (bodyPost_ret (results_list (rs := [.cell 4 27, .tmp 5]) (vs := [.agg #[.int .i64 bn, .slice At nt ct, .slice Ag ng cg], .int .i64 0]) rfl (by simp) (.cell g2 27 #[.int .i64 bn, .slice At nt ct, .slice Ag ng cg] (0, 0) _ rfl hb5 Try.underlying27 rfl (by kernel_rfl) (.tmp .nil))) rfl ?_)
    rw [HR.out]
    have q1 := blk_put HI2.out 0 (.int .i64 bn) rfl
    have q2 := blk_put q1 1 (.slice At nt ct) rfl
    exact ⟨.slice At nt ct, .slice Ag ng cg, rfl, Lib.hid (Kd.R_lower (R_turn (Kd.R_set (Kd.R_set (Kd.R_set HO.out HI2.out (by decide) 0 _) q1 (by decide) 1 _) q2 (by decide) 2 _) ht5) hc0.size), Lib.hid (Kd.R_lower (R_turn (Kd.R_set (Kd.R_set (Kd.R_set HGr.out HI2.out (by decide) 0 _) q1 (by decide) 1 _) q2 (by decide) 2 _) ht5) hc0.size), Lib.hid hw5⟩
  case stop =>
    intro D c pre W _ _ h _
    exact h.elim
end Go.Proofs.Ytpplnhefpcofoaa.PDeltaJoin
