/- The statement's begin and upTo, and the laws over it. -/
import Derived.Test.YtomfknblehkocaaFG
namespace Go.Proofs.Ytomfknblehkocaa.C
open Go.RowKit Go.Proofs.YtomfknblehkocaaW.PrintWords Go.Proofs.YtomfknblehkocaaW.PrintLast
set_option linter.unusedVariables false
set_option linter.unusedSimpArgs false
theorem BkI.lower {w : World} {base base' : Nat} {own : Nat → Nat} {g : Nat} {b : Bk} (h : BkI w base own g b) (hb : base' ≤ base) : BkI w base' own g b := by
  obtain ⟨gp, gl, vc, vd, lv, h⟩ := h
  exact ⟨gp, gl, vc, vd, lv, h.hb, h.hp, h.hl, h.ll, h.lb, h.lp, fun i hi => Kd.R_lower (h.rl i hi) hb, Kd.R_lower h.rc hb, Kd.R_lower h.rd hb, h.og, h.op, h.ol, fun k hk => ⟨Nat.le_trans hb (h.lo k hk).1, (h.lo k hk).2⟩⟩
theorem RkI.lower {w : World} {base base' : Nat} {own : Nat → Nat} {g : Nat} {r : Rk} (h : RkI w base own g r) (hb : base' ≤ base) : RkI w base' own g r := by
  obtain ⟨A, c, h⟩ := h
  exact ⟨A, c, h.hb, Kd.R_lower h.hl hb, h.hp, h.og, fun k hk => ⟨Nat.le_trans hb (h.lo k hk).1, (h.lo k hk).2⟩⟩
theorem RkI.far {w : World} {base g : Nat} {own : Nat → Nat} {r : Rk} (h : RkI w base own g r) {p : Addr} (hp : own p.block = 0) (u : Value) : RkI (w.setCell p u) base own g r := by
  obtain ⟨A, c, h⟩ := h
  exact ⟨A, c, h.far hp u⟩
theorem RkI.below {w W : World} {base g : Nat} {own : Nat → Nat} {r : Rk} (h : RkI w base own g r) (hb : Below w.heap.size w W) : RkI W base own g r := by
  obtain ⟨A, c, h⟩ := h
  exact ⟨A, c, h.below hb⟩
theorem BkI.far' {w : World} {base g : Nat} {own : Nat → Nat} {b : Bk} (h : BkI w base own g b) {p : Addr} (hp : own p.block = 0) (u : Value) : BkI (w.setCell p u) base own g b := by
  have hu : Upd (fun k => if k = p.block then 1 else 0) w (fun k => if k = p.block then 1 else 0) (w.setCell p u) := (Upd.refl _ _).set (by simp) _
  refine h.kept hu (fun k hk => if_neg (fun e => ?_))
  subst e
  exact hk hp
def BeginOk (base : Nat) (g : Nat) (mode : Int) (n : Nat) (back : Int) (w : World) (e : Ending) (w' : World) : Prop :=
  e = .returned (.bool true) ∧ ∃ ob oR gb gr, PairAt w' base ob oR g gb gr (Bk.new mode n back) (Rk.new mode n back) ∧ Only g w w' ∧ ∀ k, both ob oR k ≠ 0 → w.heap.size ≤ k
def BeginNo (g : Nat) (w : World) (e : Ending) (w' : World) : Prop :=
  e = .returned (.bool true) ∧ w'.heap[g]? = some (.cells #[.pointer none, .pointer none] 65 (0, 0)) ∧ Only g w w'
set_option maxRecDepth 100000 in
set_option maxHeartbeats 4000000 in
theorem begin27_ok (w : World) (g : Nat) (hg : w.heap[g]? = some (.cells #[.pointer none, .pointer none] 65 (0, 0))) (mode ports back : Int) (base : Nat) (hb : base ≤ w.heap.size) (hE : newE mode ports back = 0) :
    Calls Try.prog 27 #[.pointer (some ⟨g, 0, none⟩), .int .i64 mode, .int .i64 ports, .int .i64 back] w fun e w' => BeginOk base g mode ports.toNat back w e w' := by
  have hpn : (ports.toNat : Int) = ports := by
    unfold newE at hE
    split at hE
    · omega
    · split at hE <;> omega
  have HPN := Lib.hid hpn
  have HG := Lib.hid hg
  have HB := Lib.hid hb
  have hgl : g < w.heap.size := blk_lt hg
  have HT48 : Hid (Calls Try.prog 48 #[.int .i64 mode, .int .i64 ports, .int .i64 back] w fun e w' => RNewOk mode ports back w e w') := by
    refine (new48 mode ports back w).mono ?_
    intro e w' h
    unfold RNewAns at h
    rw [if_pos hE] at h
    exact h
  have HT14 : Hid (∀ W, Calls Try.prog 14 #[.int .i64 mode, .int .i64 ports, .int .i64 back] W fun e w' => NewOk mode ports.toNat back W e w') := fun W => by
    refine (new14 mode ports back W).mono ?_
    intro e w' h
    unfold NewAns at h
    rw [if_pos hE] at h
    exact h
  clear hg hb hE hpn
  go_enter Try.func27, Try.ntmps27
  go_wp2_with (first
    | (go_at_call 48; refine HT48.out.mono ?_; rintro e w1 ⟨gr, oR, rfl, hgr, hR, hb1⟩
       have HB1 := Lib.hid hb1
       have HRI := Lib.hid hR
       have HGR := Lib.hid hgr
       clear hb1 hR hgr)
    | (go_at_call 14; refine (HT14.out w1).mono ?_; rintro e w2 ⟨gb, ob, rfl, hgb, hbk, hb2⟩
       have HB2 := Lib.hid hb2
       have HBI := Lib.hid hbk
       have HGB := Lib.hid hgb
       have HG2 : Hid (w2.heap[g]? = some (.cells #[.pointer none, .pointer none] 65 (0, 0))) := (hb2.block g (Nat.lt_of_lt_of_le hgl HB1.out.size)).trans ((HB1.out.block g hgl).trans HG.out)
       have q0 : w2.cell? ⟨g, 0, none⟩ = some (.pointer none) := blk_at HG2.out 0 rfl
       have q1 : w2.cell? ⟨g, 1, none⟩ = some (.pointer none) := blk_at HG2.out 1 rfl
       have z0 : w2.frozen? ⟨g, 0, none⟩ = false := blk_frozen HG2.out 0
       have z1 : w2.frozen? ⟨g, 1, none⟩ = false := blk_frozen HG2.out 1
       clear hb2 hbk hgb)
    | (go_at_call 15; refine (num15 _ _).mono ?_; rintro e w' ⟨rfl, rfl⟩))
  go_ret
  have h1 : ∀ k, ob k ≠ 0 → w1.heap.size ≤ k := fun k hk => (HBI.out.lt k hk).1
  have h2 : ∀ k, oR k ≠ 0 → w.heap.size ≤ k ∧ k < w1.heap.size := fun k hk => HRI.out.lt k hk
  have hs := HB1.out.size
  have og : ob g = 0 := by
    by_cases h : ob g = 0
    · exact h
    · have := h1 g h; omega
  have rg : oR g = 0 := by
    by_cases h : oR g = 0
    · exact h
    · have := (h2 g h).1; omega
  have hR2 : RkI w2 w.heap.size oR gr (Rk.new mode ports back) := HRI.out.below HB2.out
  refine ⟨rfl, ob, oR, gb, gr, ⟨blk_put (blk_put HG2.out 0 _ rfl) 1 _ rfl, ?_, ?_, fun k hk => ?_, ⟨og, rg⟩, by simp only [World.size_setCell]; exact Nat.le_trans HB.out (Nat.le_trans hs HB2.out.size)⟩, ?_, fun k hk => ?_⟩
  · exact ((HBI.out.lower (Nat.le_trans HB.out hs)).far' og _).far' og _
  · rw [HPN.out]
    exact ((hR2.lower HB.out).far rg _).far rg _
  · by_cases h : oR k = 0
    · exact h
    · have := (h2 k h).2; have := h1 k hk; omega
  · have hO : Only g w w2 := ⟨HB2.out.os.trans HB1.out.os, HB2.out.tape.trans HB1.out.tape, HB2.out.output.trans HB1.out.output, Nat.le_trans hs HB2.out.size, fun k hk _ => (HB2.out.block k (Nat.lt_of_lt_of_le hk hs)).trans (HB1.out.block k hk)⟩
    exact (hO.set 0 _).set 1 _
  · by_cases h : ob k = 0
    · exact (h2 k (by unfold both at hk; omega)).1
    · have := h1 k h; omega
set_option maxRecDepth 100000 in
set_option maxHeartbeats 4000000 in
theorem begin27_no (w : World) (g : Nat) (hg : w.heap[g]? = some (.cells #[.pointer none, .pointer none] 65 (0, 0))) (mode ports back : Int) (hE : ¬ newE mode ports back = 0) :
    Calls Try.prog 27 #[.pointer (some ⟨g, 0, none⟩), .int .i64 mode, .int .i64 ports, .int .i64 back] w fun e w' => BeginNo g w e w' := by
  have HG := Lib.hid hg
  have q0 : w.cell? ⟨g, 0, none⟩ = some (.pointer none) := blk_at HG.out 0 rfl
  have q1 : w.cell? ⟨g, 1, none⟩ = some (.pointer none) := blk_at HG.out 1 rfl
  have z0 : w.frozen? ⟨g, 0, none⟩ = false := blk_frozen HG.out 0
  have z1 : w.frozen? ⟨g, 1, none⟩ = false := blk_frozen HG.out 1
  have HT48 : Hid (Calls Try.prog 48 #[.int .i64 mode, .int .i64 ports, .int .i64 back] w fun e w' => e = .returned (.tuple #[.pointer none, .int .i64 (newE mode ports back)]) ∧ w = w') := by
    refine (new48 mode ports back w).mono ?_
    intro e w' h
    unfold RNewAns at h
    rw [if_neg hE] at h
    exact h
  have HT14 : Hid (Calls Try.prog 14 #[.int .i64 mode, .int .i64 ports, .int .i64 back] w fun e w' => e = .returned (.tuple #[.pointer none, .int .i64 (newE mode ports back)]) ∧ w = w') := by
    refine (new14 mode ports back w).mono ?_
    intro e w' h
    unfold NewAns at h
    rw [if_neg hE] at h
    exact h
  generalize newE mode ports back = z at *
  have hz : (z == z) = true := beq_self_eq_true _
  clear hg hE
  go_enter Try.func27, Try.ntmps27
  go_wp2_with (first
    | (go_at_call 48; refine HT48.out.mono ?_; rintro e w1 ⟨rfl, rfl⟩)
    | (go_at_call 14; refine HT14.out.mono ?_; rintro e w2 ⟨rfl, rfl⟩)
    | (go_at_call 15; refine (num15 _ _).mono ?_; rintro e w' ⟨rfl, rfl⟩))
  go_ret
  exact ⟨rfl, blk_put (blk_put HG.out 0 _ rfl) 1 _ rfl, ((Only.refl g w).set 0 _).set 1 _⟩
theorem legal_rel {mode ports back : Int} (h : newE mode ports back = 0) : (mode = 1 ∨ mode = 2 ∨ mode = 3) ∧ 1 ≤ ports.toNat ∧ -1 ≤ back ∧ ¬ (back = 0 ∧ ports.toNat = 1) := by
  unfold newE at h
  split at h
  · omega
  · split at h
    · omega
    · omega
set_option maxRecDepth 100000 in
set_option maxHeartbeats 4000000 in
theorem upTo26 (mode ports back kind : Int) (l : List S47) (A : Option Addr) (cc : Nat) (w : World) (hC : Kd.C k47 w A l.length l) (hc : l.length ≤ cc) (hl : ∀ y ∈ l, lenO y) :
    Calls Try.prog 26 #[.int .i64 mode, .int .i64 ports, .int .i64 back, .slice A l.length cc, .int .i64 kind] w fun e w' => e = .returned (.bool true) ∧ Below w.heap.size w w' := by
  obtain ⟨n, hn⟩ : ∃ n, n = l.length := ⟨_, rfl⟩
  have Hn := Lib.hid hn
  have HC := Lib.hid hC
  have Hl := Lib.hid hl
  have hmax : n ≤ 9223372036854775807 := by rw [hn]; exact Kd.C_max hC
  have HIN : Hid (∀ W : World, Below w.heap.size w W → Calls Try.prog 17 #[.slice A n cc] W fun e w' => InsideAns l e ∧ Hid (Below W.heap.size W w')) := fun W hW => by
    rw [hn]
    exact inside17 l A cc W (Kd.C_below hC hW) hl
  have HB0 : Hid (Below w.heap.size w (w.alloc (.cells #[.pointer none, .pointer none] 65))) := (Below.refl _ _).alloc (Nat.le_refl _) _
  rw [← hn]
  clear hC hn hl
  by_cases hE : newE mode ports back = 0
  rotate_left
  · have HT := Lib.hid (begin27_no (w.alloc (.cells #[.pointer none, .pointer none] 65)) w.heap.size (blk_new w _) mode ports back hE)
    clear hE
    go_enter Try.func26, Try.ntmps26
    go_wp2_with (first
      | (go_at_call 27; refine HT.out.mono ?_; rintro e w1 ⟨rfl, hg, hO⟩
         have HB1 : Hid (Below w.heap.size w w1) := HB0.out.trans (hO.below (Nat.le_refl _) (by simp))
         have q0 : w1.cell? ⟨w.heap.size, 0, none⟩ = some (.pointer none) := blk_at hg 0 rfl
         clear hg hO))
    go_ret
    exact ⟨rfl, HB1.out⟩
  have HLR := Lib.hid (legal_rel hE)
  have HT := Lib.hid (begin27_ok (w.alloc (.cells #[.pointer none, .pointer none] 65)) w.heap.size (blk_new w _) mode ports back w.heap.size (by simp) hE)
  clear hE
  by_cases h6 : 600 < n
  · have h6' : decide (600 < n) = true := decide_eq_true h6
    have h6'' : decide (600 < (n : Int)) = true := decide_eq_true (by omega)
    go_enter Try.func26, Try.ntmps26
    go_wp2_with (first
      | (go_at_call 27; refine HT.out.mono ?_; rintro e w1 ⟨rfl, ob, oR, gb, gr, hP, hO, _⟩
         have HB1 : Hid (Below w.heap.size w w1) := HB0.out.trans (hO.below (Nat.le_refl _) (by simp))
         have q0 : w1.cell? ⟨w.heap.size, 0, none⟩ = some (.pointer (some ⟨gb, 0, none⟩)) := blk_at hP.hg 0 rfl
         clear hP hO))
    go_ret
    exact ⟨rfl, HB1.out⟩
  have h6' : decide (600 < n) = false := decide_eq_false h6
  have h6'' : decide (600 < (n : Int)) = false := decide_eq_false (by omega)
  go_enter Try.func26, Try.ntmps26
  go_wp2_with (first
    | (go_at_call 27; refine HT.out.mono ?_; rintro e w1 ⟨rfl, ob, oR, gb, gr, hP, hO, _⟩
       have HB1 : Hid (Below w.heap.size w w1) := HB0.out.trans (hO.below (Nat.le_refl _) (by simp))
       have q0 : w1.cell? ⟨w.heap.size, 0, none⟩ = some (.pointer (some ⟨gb, 0, none⟩)) := blk_at hP.hg 0 rfl
       have HP1 := Lib.hid hP
       clear hP hO)
    | (go_at_call 17; refine (HIN.out w1 HB1.out).mono ?_; rintro e w3 ⟨⟨bi, rfl, hbi⟩, hb⟩
       have HB3 : Hid (Below w.heap.size w w3) := HB1.out.trans (hb.out.mono HB1.out.size)
       have HP3 : Hid (PairAt w3 w.heap.size ob oR w.heap.size gb gr _ _) := HP1.out.below hb.out
       have HBI := Lib.hid hbi
       clear hb hbi q0
       cases bi))
  · go_ret
    exact ⟨rfl, HB3.out⟩
  have Hp : Hid (partsOs l ≤ 10000) := HBI.out (by first | rfl | trivial)
  clear HBI HP1 HB1 HIN HT HB0 h6' h6''
  go_loopw [12, 13] (fun v12 v13 wr => ∃ (k : Nat) (b : Bk) (r : Rk) (ob oR : Nat → Nat) (gb gr : Nat), k ≤ n ∧ v12 = .int .i64 k ∧ Hid (PairAt wr w.heap.size ob oR w.heap.size gb gr b r) ∧ Hid (Below w.heap.size w wr) ∧ Hid (Rel b r mode back ports.toNat) ∧ Hid (Fit b mode back ports.toNat (partsOs (l.take k))) ∧ Hid (partsTs r.list ≤ partsOs (l.take k))) (fun v12 _ _ => n - (intOf v12).toNat)
  case atStart => exact ⟨0, _, _, ob, oR, gb, gr, Nat.zero_le _, rfl, HP3, HB3, Lib.hid (Rel.new HLR.out.2.1 HLR.out.2.2.1 HLR.out.2.2.2), Lib.hid (Fit.new _ _ _), Lib.hid (Nat.zero_le _)⟩
  case round =>
    clear HP3 HB3
    obtain ⟨k, b, r, ob, oR, gb, gr, hk, rfl, HP, HB, HR, HF, HT⟩ := hrel
    by_cases hlt : k < n
    rotate_left
    · go_wp2
      go_ret
      exact ⟨rfl, HB.out⟩
    obtain ⟨ad, A8, c8, A9, c9, A10, c10, A11, c11, A13, c13, rfl, e0, e1, e2, e3, e4, e5, e6, e7, e8, e9, e10, e11, e12, e13, hl8, hC8, hl9, hC9, hl10, hC10, hl11, hC11, hl13, hC13⟩ := at_T47 HC.out (k : Int) (by omega) (by rw [← Hn.out]; omega)
    have hst : partsOs (l.take (k + 1)) = partsOs (l.take k) + partsO (rd_T47 l (k : Int)) := partsOs_step l k _ (by rw [← Hn.out]; exact hlt)
    generalize rd_T47 l (k : Int) = o at *
    rw [Int.toNat_natCast] at e0 e1 e2 e3 e4 e5 e6 e7 e8 e9 e10 e11 e12 e13
    replace e0 := (HB.out.cell (World.block_lt_of_cell? w _ e0)).trans e0
    replace e1 := (HB.out.cell (World.block_lt_of_cell? w _ e1)).trans e1
    replace e2 := (HB.out.cell (World.block_lt_of_cell? w _ e2)).trans e2
    replace e3 := (HB.out.cell (World.block_lt_of_cell? w _ e3)).trans e3
    replace e4 := (HB.out.cell (World.block_lt_of_cell? w _ e4)).trans e4
    replace e5 := (HB.out.cell (World.block_lt_of_cell? w _ e5)).trans e5
    replace e6 := (HB.out.cell (World.block_lt_of_cell? w _ e6)).trans e6
    replace e7 := (HB.out.cell (World.block_lt_of_cell? w _ e7)).trans e7
    replace e8 := (HB.out.cell (World.block_lt_of_cell? w _ e8)).trans e8
    replace e9 := (HB.out.cell (World.block_lt_of_cell? w _ e9)).trans e9
    replace e10 := (HB.out.cell (World.block_lt_of_cell? w _ e10)).trans e10
    replace e11 := (HB.out.cell (World.block_lt_of_cell? w _ e11)).trans e11
    replace e12 := (HB.out.cell (World.block_lt_of_cell? w _ e12)).trans e12
    replace e13 := (HB.out.cell (World.block_lt_of_cell? w _ e13)).trans e13
    have hpt : partsOs (l.take k) ≤ 10000 := Nat.le_trans (partsOs_take_le l k) Hp.out
    have hpo : partsO o ≤ 10000 := by
      have h1 := partsOs_take_le l (k + 1)
      have h2 := Hp.out
      omega
    have HST := Lib.hid hst
    have hlo : ∀ k, both ob oR k ≠ 0 → w.heap.size ≤ k := fun k hk => (HP.out.lo k hk).1
    have HPL := Lib.hid (plays28 HP.out HR.out HLR.out.1 HLR.out.2.1 HLR.out.2.2.1 HLR.out.2.2.2 HF.out HT.out (by omega) o A8 c8 A9 c9 A10 c10 A11 c11 A13 c13 (Away.of_C hC8 HB.out hlo) hl8 (Away.of_C hC9 HB.out hlo) hl9 (Away.of_C hC10 HB.out hlo) hl10 (Away.of_C hC11 HB.out hlo) hl11 (Away.of_C hC13 HB.out hlo) hl13 (by omega))
    have HLO := Lib.hid hlo
    have i1 : (0 : Int) ≤ (k : Int) := by omega
    have i2 : (k : Int) < (n : Int) := by omega
    clear hl8 hC8 hl9 hC9 hl10 hC10 hl11 hC11 hl13 hC13 hst hpt hpo hlo
    go_wp2_with (first
      | (go_at_call 28; refine HPL.out.mono ?_; rintro e w2 ⟨rfl, b2, r2, ob2, oR2, hP2, hu2, hR2, hF2, hT2⟩
         have HQ := Lib.hid (And.intro hP2 (And.intro hR2 (And.intro hF2 hT2)))
         have HB2 : Hid (Below w.heap.size w w2) := HB.out.trans (hu2.below HB.out.size (fun k hk => by have := HLO.out k; omega))
         clear hP2 hu2 hR2 hF2 hT2))
    go_roundw
    case rel => exact ⟨k + 1, b2, r2, ob2, oR2, gb, gr, by omega, by go_num, Lib.hid HQ.out.1, HB2, Lib.hid HQ.out.2.1, by rw [HST.out]; exact Lib.hid HQ.out.2.2.1, by rw [HST.out]; exact Lib.hid HQ.out.2.2.2⟩
    case measure => simp [intOf]; omega
set_option maxRecDepth 100000 in
set_option maxHeartbeats 4000000 in
theorem marks_walk (mode ports back : Int) (l : List S47) (A : Option Addr) (cc : Nat) (w : World) (hC : Kd.C k47 w A l.length l) (hc : l.length ≤ cc) (hl : ∀ y ∈ l, lenO y) :
    Calls Try.prog 4 #[.int .i64 mode, .int .i64 ports, .int .i64 back, .slice A l.length cc] w fun e w' => e = .returned (.bool true) ∧ Below w.heap.size w w' := by
  have HU := Lib.hid (upTo26 mode ports back 2 l A cc w hC hc hl)
  clear hC hc hl
  go_enter Try.func4, Try.ntmps4
  go_wp2_with (first
    | (go_at_call 26; refine HU.out.mono ?_; rintro e w1 ⟨rfl, hb⟩
       have HB := Lib.hid hb
       clear hb))
  go_ret
  exact ⟨rfl, HB.out⟩
set_option maxRecDepth 100000 in
set_option maxHeartbeats 4000000 in
theorem tooks_walk (mode ports back : Int) (l : List S47) (A : Option Addr) (cc : Nat) (w : World) (hC : Kd.C k47 w A l.length l) (hc : l.length ≤ cc) (hl : ∀ y ∈ l, lenO y) :
    Calls Try.prog 5 #[.int .i64 mode, .int .i64 ports, .int .i64 back, .slice A l.length cc] w fun e w' => e = .returned (.bool true) ∧ Below w.heap.size w w' := by
  have HU := Lib.hid (upTo26 mode ports back 1 l A cc w hC hc hl)
  clear hC hc hl
  go_enter Try.func5, Try.ntmps5
  go_wp2_with (first
    | (go_at_call 26; refine HU.out.mono ?_; rintro e w1 ⟨rfl, hb⟩
       have HB := Lib.hid hb
       clear hb))
  go_ret
  exact ⟨rfl, HB.out⟩
set_option maxRecDepth 100000 in
set_option maxHeartbeats 4000000 in
theorem parts_walk (mode ports back : Int) (l : List S47) (A : Option Addr) (cc : Nat) (w : World) (hC : Kd.C k47 w A l.length l) (hc : l.length ≤ cc) (hl : ∀ y ∈ l, lenO y) :
    Calls Try.prog 6 #[.int .i64 mode, .int .i64 ports, .int .i64 back, .slice A l.length cc] w fun e w' => e = .returned (.bool true) ∧ Below w.heap.size w w' := by
  have HU := Lib.hid (upTo26 mode ports back 3 l A cc w hC hc hl)
  clear hC hc hl
  go_enter Try.func6, Try.ntmps6
  go_wp2_with (first
    | (go_at_call 26; refine HU.out.mono ?_; rintro e w1 ⟨rfl, hb⟩
       have HB := Lib.hid hb
       clear hb))
  go_ret
  exact ⟨rfl, HB.out⟩
set_option maxRecDepth 100000 in
set_option maxHeartbeats 4000000 in
theorem plays_walk (mode ports back : Int) (l : List S47) (A : Option Addr) (cc : Nat) (w : World) (hC : Kd.C k47 w A l.length l) (hc : l.length ≤ cc) (hl : ∀ y ∈ l, lenO y) :
    Calls Try.prog 7 #[.int .i64 mode, .int .i64 ports, .int .i64 back, .slice A l.length cc] w fun e w' => e = .returned (.bool true) ∧ Below w.heap.size w w' := by
  have HU := Lib.hid (upTo26 mode ports back 0 l A cc w hC hc hl)
  clear hC hc hl
  go_enter Try.func7, Try.ntmps7
  go_wp2_with (first
    | (go_at_call 26; refine HU.out.mono ?_; rintro e w1 ⟨rfl, hb⟩
       have HB := Lib.hid hb
       clear hb))
  go_ret
  exact ⟨rfl, HB.out⟩
end Go.Proofs.Ytomfknblehkocaa.C
