/- The document's book: Part. -/
import Derived.Test.YtomfknblehkocaaFD
namespace Go.Proofs.Ytomfknblehkocaa.C
open Go.RowKit Go.Proofs.YtomfknblehkocaaW.PrintWords Go.Proofs.YtomfknblehkocaaW.PrintLast
set_option linter.unusedVariables false
set_option linter.unusedSimpArgs false
def Rk.handedR (r : Rk) : Rk := ⟨r.mode, r.ports, r.back, r.last, r.list, true⟩
def Rk.st (r : Rk) : S34 := (r.list.getD r.cop.toNat z109).f4
def Rk.pd (r : Rk) : List S45 := (r.list.getD r.cop.toNat z109).f5
def Rk.logs (r : Rk) : List (List S45) := (List.range r.ports.toNat).map fun i => r.log (i : Nat)
def Rk.ready (r : Rk) : Bool := decide (0 ≤ r.cop) && !r.handed && (List.range r.ports.toNat).all fun i => decide (0 ≤ r.clo (i : Nat))
structure RSz (r : Rk) : Prop where
  len : r.list.length ≤ 100000000
  ahead : ∀ t ∈ r.list, t.f3.length ≤ 100000000
  st : partsC r.st.f1 ≤ 100000
  pd : partsRs r.pd ≤ 100000
  log : ∀ p : Nat, partsRs (r.log p) ≤ 100000
theorem clo_handed (r : Rk) (p : Int) : r.handedR.clo p = r.clo p := rfl
theorem cop_handed (r : Rk) : r.handedR.cop = r.cop := by
  have hl : ∀ (k p : Nat) (m : Int), copLoop r.handedR k p m = copLoop r k p m := by
    intro k
    induction k with
    | zero => exact fun _ _ => rfl
    | succ k ih =>
      intro p m
      unfold copLoop
      rw [ih, ih]
      rfl
  unfold Rk.cop
  rw [hl]
  rfl
theorem log_handed (r : Rk) (p : Int) : r.handedR.log p = r.log p := by
  unfold Rk.log
  rw [cop_handed]
  rfl
theorem cop_lt (r : Rk) (h : 0 ≤ r.cop) : r.cop < r.list.length := by
  unfold Rk.cop at h ⊢
  split at h
  · omega
  · rename_i h1
    rw [if_neg h1]
    split at h
    · rename_i h2
      rw [if_pos h2]; omega
    · rename_i h2
      rw [if_neg h2]
      have hlp : ∀ (k p : Nat) (m : Int), m < r.list.length → copLoop r k p m < r.list.length := by
        intro k
        induction k with
        | zero => exact fun p m hm => hm
        | succ k ih =>
          intro p m hm
          unfold copLoop
          split
          · exact ih _ _ hm
          · split
            · omega
            · exact ih _ _ (by have := (r.clo_ge p).2; split <;> omega)
      exact hlp _ _ _ (by omega)
def RPartAns (base : Nat) (own : Nat → Nat) (g : Nat) (r : Rk) (w : World) (e : Ending) (w' : World) : Prop :=
  if r.ready = true then ∃ A1 c1 A2 c2 A3 c3, e = .returned (.tuple #[.int .i64 r.last, .agg #[.int .i64 r.st.f0, .slice A1 r.st.f1.length c1, .slice A2 r.logs.length c2, .slice A3 r.pd.length c3], .bool true]) ∧ RkPost base own g r.handedR w w' ∧ Kd.C k104 w' A1 r.st.f1.length r.st.f1 ∧ Kd.C (Kd.slice 45 k45) w' A2 r.logs.length r.logs ∧ Kd.C k45 w' A3 r.pd.length r.pd
  else e = .returned (.tuple #[.int .i64 0, .agg #[.int .i64 0, .slice none 0 0, .slice none 0 0, .slice none 0 0], .bool false]) ∧ RkPost base own g r w w'
theorem e104 : ∀ q, q ∈ 104 :: k104.E → q ≠ 55 := by decide
theorem e45 : ∀ q, q ∈ 45 :: k45.E → q ≠ 55 := by decide
theorem e35 : ∀ q, q ∈ 35 :: (Kd.slice 45 k45).E → q ≠ 55 := by decide
theorem e104' : ∀ q, q ∈ 104 :: k104.E → q ≠ 35 := by decide
theorem e45' : ∀ q, q ∈ 45 :: k45.E → q ≠ 35 := by decide
theorem Upd.setFar {o1 o2 : Nat → Nat} {w w' : World} (h : Upd o1 w o2 w') {p : Addr} (hp : w.heap.size ≤ p.block) (u : Value) : Upd o1 w o2 (w'.setCell p u) :=
  ⟨h.os, h.tape, h.output, by simpa [World.setCell] using h.size, h.same, fun k hk h0 => (Below.heap_setCell _ _ _ _ (by omega)).trans (h.block k hk h0)⟩
theorem RkAt.far {w : World} {base : Nat} {own : Nat → Nat} {g : Nat} {r : Rk} {A : Option Addr} {c : Nat} (h : RkAt w base own g r A c) {p : Addr} (hp : own p.block = 0) (u : Value) : RkAt (w.setCell p u) base own g r A c := by
  have hm : ∀ k, own k ≠ 0 → (w.setCell p u).heap[k]? = w.heap[k]? := fun k hk => Below.heap_setCell _ _ _ _ (fun e => hk (e ▸ hp))
  exact ⟨(hm g (by have := h.og; omega)).trans h.hb, Kd.R_step h.hl (fun k hk _ => hm k (by omega)), h.hp, h.og, fun k hk => by simp only [World.size_setCell]; exact h.lo k hk⟩
section
variable {w : World} {base : Nat} {own : Nat → Nat} {g : Nat} {r : Rk} {A : Option Addr} {c : Nat}
/-- The result's cells are written. -/
theorem RkAt.shown (h : RkAt w base own g r A c) {r' : Rk} {W : World} (hX : RkAt W base own g r' A c) (hU : Upd own w own W) (u0 u1 u2 u3 : Value) : RkPost base own g r' w ((((W.setCell ⟨w.heap.size, 0, none⟩ (u0)).setCell ⟨w.heap.size, 1, none⟩ (u1)).setCell ⟨w.heap.size, 2, none⟩ (u2)).setCell ⟨w.heap.size, 3, none⟩ (u3)) := by
  have h0 : own w.heap.size = 0 := h.free (Nat.le_refl _)
  exact ⟨own, ⟨A, c, (((hX.far h0 _).far h0 _).far h0 _).far h0 _⟩, (((hU.setFar (Nat.le_refl _) _).setFar (Nat.le_refl _) _).setFar (Nat.le_refl _) _).setFar (Nat.le_refl _) _⟩
set_option maxRecDepth 100000 in
set_option maxHeartbeats 4000000 in
theorem part51_copied (h : RkAt w base own g r A c) (hc : decide (r.cop < 0) = true) :
    Calls Try.prog 51 #[.pointer (some ⟨g, 0, none⟩)] w fun e w' => e = .returned (.tuple #[.int .i64 0, .agg #[.int .i64 0, .slice none 0 0, .slice none 0 0, .slice none 0 0], .bool false]) ∧ RkPost base own g r w w' := by
  have HB0 : Hid (Below w.heap.size w (w.alloc (.cells #[.int .i64 0, .slice none 0 0, .slice none 0 0, .slice none 0 0] 55))) := (Below.refl _ _).alloc (Nat.le_refl _) _
  have HX0 : Hid (RkAt (w.alloc (.cells #[.int .i64 0, .slice none 0 0, .slice none 0 0, .slice none 0 0] 55)) base own g r A c) := h.below HB0.out
  have HP63 := Lib.hid (copied63 HX0.out)
  have HX := Lib.hid h
  generalize r.cop = q at *
  clear h
  go_enter Try.func51, Try.ntmps51
  go_wp2_with (first
    | (go_at_call 63; refine HP63.out.mono ?_; rintro e w1 ⟨rfl, hb1⟩
       have HB1 : Hid (Below w.heap.size w w1) := HB0.out.trans (hb1.out.mono HB0.out.size)
       have HZ1 : Hid (w1.heap[w.heap.size]? = some (.cells #[.int .i64 0, .slice none 0 0, .slice none 0 0, .slice none 0 0] 55 (0, 0))) := (hb1.out.block _ (by simp)).trans (blk_new w _)
       have y0 : w1.cell? ⟨w.heap.size, 0, none⟩ = some (.int .i64 0) := blk_at HZ1.out 0 rfl
       have z0 : w1.frozen? ⟨w.heap.size, 0, none⟩ = false := blk_frozen HZ1.out 0
       have y1 : w1.cell? ⟨w.heap.size, 1, none⟩ = some (.slice none 0 0) := blk_at HZ1.out 1 rfl
       have z1 : w1.frozen? ⟨w.heap.size, 1, none⟩ = false := blk_frozen HZ1.out 1
       have y2 : w1.cell? ⟨w.heap.size, 2, none⟩ = some (.slice none 0 0) := blk_at HZ1.out 2 rfl
       have z2 : w1.frozen? ⟨w.heap.size, 2, none⟩ = false := blk_frozen HZ1.out 2
       have y3 : w1.cell? ⟨w.heap.size, 3, none⟩ = some (.slice none 0 0) := blk_at HZ1.out 3 rfl
       have z3 : w1.frozen? ⟨w.heap.size, 3, none⟩ = false := blk_frozen HZ1.out 3
       clear hb1))
  refine bodyPost_ret (results_list (rs := [.tmp 2, .cell 3 55, .tmp 4]) (vs := [.int .i64 0, .agg #[.int .i64 0, .slice none 0 0, .slice none 0 0, .slice none 0 0], .bool false]) rfl (by simp) (.tmp (.cell w.heap.size 55 #[.int .i64 0, .slice none 0 0, .slice none 0 0, .slice none 0 0] (0, 0) _ rfl (blk_put (blk_put (blk_put (blk_put HZ1.out 0 _ rfl) 1 _ rfl) 2 _ rfl) 3 _ rfl) Try.underlying55 rfl (by kernel_rfl) (.tmp .nil)))) rfl ?_
  exact ⟨rfl, HX.out.shown (HX.out.below HB1.out) (Upd.of_below HB1.out (fun _ _ => rfl)) _ _ _ _⟩
set_option maxRecDepth 100000 in
set_option maxHeartbeats 4000000 in
theorem part51_given (h : RkAt w base own g r A c) (hc : decide (r.cop < 0) = false) (hg : r.handed = true) :
    Calls Try.prog 51 #[.pointer (some ⟨g, 0, none⟩)] w fun e w' => e = .returned (.tuple #[.int .i64 0, .agg #[.int .i64 0, .slice none 0 0, .slice none 0 0, .slice none 0 0], .bool false]) ∧ RkPost base own g r w w' := by
  have HB0 : Hid (Below w.heap.size w (w.alloc (.cells #[.int .i64 0, .slice none 0 0, .slice none 0 0, .slice none 0 0] 55))) := (Below.refl _ _).alloc (Nat.le_refl _) _
  have HX0 : Hid (RkAt (w.alloc (.cells #[.int .i64 0, .slice none 0 0, .slice none 0 0, .slice none 0 0] 55)) base own g r A c) := h.below HB0.out
  have HP63 := Lib.hid (copied63 HX0.out)
  have HX := Lib.hid h
  have HG := Lib.hid hg
  generalize r.cop = q at *
  clear h hg
  go_enter Try.func51, Try.ntmps51
  go_wp2_with (first
    | (go_at_call 63; refine HP63.out.mono ?_; rintro e w1 ⟨rfl, hb1⟩
       have HB1 : Hid (Below w.heap.size w w1) := HB0.out.trans (hb1.out.mono HB0.out.size)
       have HZ1 : Hid (w1.heap[w.heap.size]? = some (.cells #[.int .i64 0, .slice none 0 0, .slice none 0 0, .slice none 0 0] 55 (0, 0))) := (hb1.out.block _ (by simp)).trans (blk_new w _)
       have y0 : w1.cell? ⟨w.heap.size, 0, none⟩ = some (.int .i64 0) := blk_at HZ1.out 0 rfl
       have z0 : w1.frozen? ⟨w.heap.size, 0, none⟩ = false := blk_frozen HZ1.out 0
       have y1 : w1.cell? ⟨w.heap.size, 1, none⟩ = some (.slice none 0 0) := blk_at HZ1.out 1 rfl
       have z1 : w1.frozen? ⟨w.heap.size, 1, none⟩ = false := blk_frozen HZ1.out 1
       have y2 : w1.cell? ⟨w.heap.size, 2, none⟩ = some (.slice none 0 0) := blk_at HZ1.out 2 rfl
       have z2 : w1.frozen? ⟨w.heap.size, 2, none⟩ = false := blk_frozen HZ1.out 2
       have y3 : w1.cell? ⟨w.heap.size, 3, none⟩ = some (.slice none 0 0) := blk_at HZ1.out 3 rfl
       have z3 : w1.frozen? ⟨w.heap.size, 3, none⟩ = false := blk_frozen HZ1.out 3
       have y5 : w1.cell? ⟨g, 5, none⟩ = some (.bool true) := by rw [← HG.out]; exact blk_at (HX.out.below HB1.out).hb 5 rfl
       clear hb1))
  refine bodyPost_ret (results_list (rs := [.tmp 2, .cell 3 55, .tmp 4]) (vs := [.int .i64 0, .agg #[.int .i64 0, .slice none 0 0, .slice none 0 0, .slice none 0 0], .bool false]) rfl (by simp) (.tmp (.cell w.heap.size 55 #[.int .i64 0, .slice none 0 0, .slice none 0 0, .slice none 0 0] (0, 0) _ rfl (blk_put (blk_put (blk_put (blk_put HZ1.out 0 _ rfl) 1 _ rfl) 2 _ rfl) 3 _ rfl) Try.underlying55 rfl (by kernel_rfl) (.tmp .nil)))) rfl ?_
  exact ⟨rfl, HX.out.shown (HX.out.below HB1.out) (Upd.of_below HB1.out (fun _ _ => rfl)) _ _ _ _⟩
set_option maxRecDepth 100000 in
set_option maxHeartbeats 4000000 in
theorem part51_rest (h : RkAt w base own g r A c) (hbase : base ≤ w.heap.size) (hs : RSz r) (hc : decide (r.cop < 0) = false) (hg : r.handed = false) :
    Calls Try.prog 51 #[.pointer (some ⟨g, 0, none⟩)] w fun e w' => RPartAns base own g r w e w' := by
  have HB0 : Hid (Below w.heap.size w (w.alloc (.cells #[.int .i64 0, .slice none 0 0, .slice none 0 0, .slice none 0 0] 55))) := (Below.refl _ _).alloc (Nat.le_refl _) _
  have HX0 : Hid (RkAt (w.alloc (.cells #[.int .i64 0, .slice none 0 0, .slice none 0 0, .slice none 0 0] 55)) base own g r A c) := h.below HB0.out
  have HP63 := Lib.hid (copied63 HX0.out)
  have HX := Lib.hid h
  have HG := Lib.hid hg
  have HSz := Lib.hid hs
  have Hbase := Lib.hid hbase
  have hp := h.hp
  obtain ⟨pn, hpn⟩ : ∃ pn : Nat, r.ports = pn := ⟨r.ports.toNat, by omega⟩
  have Hpn := Lib.hid hpn
  rw [hpn] at hp
  obtain ⟨n, hn⟩ : ∃ n, n = r.list.length := ⟨_, rfl⟩
  have Hn := Lib.hid hn
  have hcn := cop_lt r (by simpa using hc)
  obtain ⟨m, hm⟩ : ∃ m : Nat, r.cop = m := ⟨r.cop.toNat, by have := of_decide_eq_false hc; omega⟩
  have HM := Lib.hid hm
  rw [hm] at HP63 hc hcn
  rw [← hn] at hcn
  have hmx : n ≤ 100000000 := by rw [hn]; exact hs.len
  clear h hg hs hbase hpn hn hm
  go_enter Try.func51, Try.ntmps51
  go_wp2_with (first
    | (go_at_call 63; refine HP63.out.mono ?_; rintro e w1 ⟨rfl, hb1⟩
       have HB1 : Hid (Below w.heap.size w w1) := HB0.out.trans (hb1.out.mono HB0.out.size)
       have HZ1 : Hid (w1.heap[w.heap.size]? = some (.cells #[.int .i64 0, .slice none 0 0, .slice none 0 0, .slice none 0 0] 55 (0, 0))) := (hb1.out.block _ (by simp)).trans (blk_new w _)
       have y5 : w1.cell? ⟨g, 5, none⟩ = some (.bool false) := by rw [← HG.out]; exact blk_at (HX.out.below HB1.out).hb 5 rfl
       clear hb1))
  clear y5
  go_loopw [6] (fun v6 wr => ∃ p : Nat, p ≤ pn ∧ v6 = .int .i64 p ∧ Hid (Below w.heap.size w wr) ∧ Hid (wr.heap[w.heap.size]? = some (.cells #[.int .i64 0, .slice none 0 0, .slice none 0 0, .slice none 0 0] 55 (0, 0))) ∧ Hid (∀ i : Nat, i < p → 0 ≤ r.clo i)) (fun v6 _ => pn - (intOf v6).toNat)
  case atStart => exact ⟨0, Nat.zero_le _, rfl, HB1, HZ1, Lib.hid (fun i hi => absurd hi (Nat.not_lt_zero _))⟩
  case round =>
    clear HB1 HZ1
    obtain ⟨p, hk, rfl, HB, HZ, HA⟩ := hrel
    have HXr : Hid (RkAt wr base own g r A c) := HX.out.below HB.out
    have c1 : wr.cell? ⟨g, 1, none⟩ = some (.int .i64 pn) := by rw [← Hpn.out]; exact blk_at HXr.out.hb 1 rfl
    by_cases hlt : p < pn
    · have HCl := Lib.hid (closed62 HXr.out p)
      by_cases hcl : r.clo p < 0
      · have hq : decide (r.clo p < 0) = true := decide_eq_true hcl
        have HNR : Hid (r.ready = false) := by
          have h1 : (List.range r.ports.toNat).all (fun i => decide (0 ≤ r.clo (i : Nat))) = false := by
            rw [List.all_eq_false]
            exact ⟨p, List.mem_range.2 (by rw [Hpn.out, Int.toNat_natCast]; exact hlt), by simp; omega⟩
          unfold Rk.ready
          rw [h1]
          simp
          exact Lib.hid trivial
        generalize r.clo p = q at *
        clear hcl
        go_wp2_with (first
          | (go_at_call 62; refine HCl.out.mono ?_; rintro e w2 ⟨rfl, hb2⟩
             have HB2 : Hid (Below w.heap.size w w2) := HB.out.trans (hb2.out.mono HB.out.size)
             have HZ2 : Hid (w2.heap[w.heap.size]? = some (.cells #[.int .i64 0, .slice none 0 0, .slice none 0 0, .slice none 0 0] 55 (0, 0))) := (hb2.out.block _ (blk_lt HZ.out)).trans HZ.out
             have y0 : w2.cell? ⟨w.heap.size, 0, none⟩ = some (.int .i64 0) := blk_at HZ2.out 0 rfl
             have z0 : w2.frozen? ⟨w.heap.size, 0, none⟩ = false := blk_frozen HZ2.out 0
             have y1 : w2.cell? ⟨w.heap.size, 1, none⟩ = some (.slice none 0 0) := blk_at HZ2.out 1 rfl
             have z1 : w2.frozen? ⟨w.heap.size, 1, none⟩ = false := blk_frozen HZ2.out 1
             have y2 : w2.cell? ⟨w.heap.size, 2, none⟩ = some (.slice none 0 0) := blk_at HZ2.out 2 rfl
             have z2 : w2.frozen? ⟨w.heap.size, 2, none⟩ = false := blk_frozen HZ2.out 2
             have y3 : w2.cell? ⟨w.heap.size, 3, none⟩ = some (.slice none 0 0) := blk_at HZ2.out 3 rfl
             have z3 : w2.frozen? ⟨w.heap.size, 3, none⟩ = false := blk_frozen HZ2.out 3
             clear hb2))
        refine bodyPost_ret (results_list (rs := [.tmp 2, .cell 3 55, .tmp 4]) (vs := [.int .i64 0, .agg #[.int .i64 0, .slice none 0 0, .slice none 0 0, .slice none 0 0], .bool false]) rfl (by simp) (.tmp (.cell w.heap.size 55 #[.int .i64 0, .slice none 0 0, .slice none 0 0, .slice none 0 0] (0, 0) _ rfl (blk_put (blk_put (blk_put (blk_put HZ2.out 0 _ rfl) 1 _ rfl) 2 _ rfl) 3 _ rfl) Try.underlying55 rfl (by kernel_rfl) (.tmp .nil)))) rfl ?_
        unfold RPartAns
        rw [if_neg (by rw [HNR.out]; simp)]
        exact ⟨rfl, HX.out.shown (HX.out.below HB2.out) (Upd.of_below HB2.out (fun _ _ => rfl)) _ _ _ _⟩
      · have hq : decide (r.clo p < 0) = false := decide_eq_false hcl
        have HA' : Hid (∀ i : Nat, i < p + 1 → 0 ≤ r.clo i) := fun i hi => by
          by_cases h1 : i = p
          · subst h1; omega
          · exact HA.out i (by omega)
        generalize r.clo p = q at *
        clear hcl
        go_wp2_with (first
          | (go_at_call 62; refine HCl.out.mono ?_; rintro e w2 ⟨rfl, hb2⟩
             have HB2 : Hid (Below w.heap.size w w2) := HB.out.trans (hb2.out.mono HB.out.size)
             have HZ2 : Hid (w2.heap[w.heap.size]? = some (.cells #[.int .i64 0, .slice none 0 0, .slice none 0 0, .slice none 0 0] 55 (0, 0))) := (hb2.out.block _ (blk_lt HZ.out)).trans HZ.out
             clear hb2))
        go_roundw
        case rel => exact ⟨p + 1, by omega, by go_num, HB2, HZ2, HA'⟩
        case measure => simp [intOf]; omega
    obtain rfl : pn = p := by omega
    clear hk hlt
    have HRD : Hid (r.ready = true) := by
      have h1 : (List.range r.ports.toNat).all (fun i => decide (0 ≤ r.clo (i : Nat))) = true := by
        rw [List.all_eq_true]
        intro i hi
        have := HA.out i (by have := List.mem_range.1 hi; rw [Hpn.out, Int.toNat_natCast] at this; exact this)
        exact decide_eq_true this
      unfold Rk.ready
      rw [h1, HG.out, HM.out]
      simp
      exact Lib.hid trivial
    obtain ⟨wo, rfl⟩ : ∃ wo : World, wo = wr := ⟨_, rfl⟩
    have y5 : wo.cell? ⟨g, 5, none⟩ = some (.bool false) := by rw [← HG.out]; exact blk_at HXr.out.hb 5 rfl
    have f5 : wo.frozen? ⟨g, 5, none⟩ = false := blk_frozen HXr.out.hb 5
    have HXP : Hid (RkAt (wo.setCell ⟨g, 5, none⟩ (.bool true)) base own g r.handedR A c) := by
      have hx := HXr.out
      have hg1 : own g ≠ 0 := by have := hx.og; omega
      exact Lib.hid ⟨blk_put hx.hb 5 _ rfl, Kd.R_far hx.hl (fun k hk he => by subst he; have := hx.og; have h2 : own k = 2 := hk; omega) _, hx.hp, hx.og, fun k hk => by simp only [World.size_setCell]; exact hx.lo k hk⟩
    have HUP : Hid (Upd own w own (wo.setCell ⟨g, 5, none⟩ (.bool true))) := (Upd.of_below HB.out (fun _ _ => rfl)).set (by have := HXr.out.og; show own g ≠ 0; omega) _
    have HZP : Hid ((wo.setCell ⟨g, 5, none⟩ (.bool true)).heap[w.heap.size]? = some (.cells #[.int .i64 0, .slice none 0 0, .slice none 0 0, .slice none 0 0] 55 (0, 0))) := blk_far HZ.out (by have := HX.out.glt; show w.heap.size ≠ g; omega) _
    go_upto_region 10 with (fail)
    clear y5 f5 c1
    generalize wo.setCell ⟨g, 5, none⟩ (.bool true) = WP at HXP HUP HZP ⊢
    have HCP := Lib.hid (Kd.R_reads' HXP.out.hl).2.2
    obtain ⟨ad, A6, c6, A7, c7, A8, c8, A10, c10, A11, c11, hA, e0, e1, e2, e3, e4, e5, e6, e7, e8, e9, e10, e11, l6, g6, l7, g7, l8, g8, l10, g10, l11, g11⟩ := at_T109 HCP.out (m : Int) (by omega) (by show (m : Int) < (r.list.length : Nat); rw [← Hn.out]; omega)
    clear e0 e1 e2 e3 e4 e5 e6 e7 e8 l6 g6 l7 g7 l8 g8
    have hst : (rd_T109 r.handedR.list (m : Int)).f4 = r.st := by unfold rd_T109 Rk.st; rw [HM.out]; rfl
    have hpd : (rd_T109 r.handedR.list (m : Int)).f5 = r.pd := by unfold rd_T109 Rk.pd; rw [HM.out]; rfl
    rw [hst] at e9 e10 l10 g10
    rw [hpd] at e11 l11 g11
    rw [Int.toNat_natCast] at e9 e10 e11
    obtain ⟨st, hst2⟩ : ∃ st, st = r.st := ⟨_, rfl⟩
    obtain ⟨pd, hpd2⟩ : ∃ pd, pd = r.pd := ⟨_, rfl⟩
    have HST := Lib.hid hst2
    have HPD := Lib.hid hpd2
    rw [← hst2] at e9 e10 l10 g10
    rw [← hpd2] at e11 l11 g11
    have hz1 := HSz.out.st
    have hz2 := HSz.out.pd
    rw [← hst2] at hz1
    rw [← hpd2] at hz2
    have HCs : Hid (∀ W, Below WP.heap.size WP W → Calls Try.prog 65 #[.agg #[.int .i64 st.f0, .slice A10 st.f1.length c10]] W fun e w' => ∃ v, e = .returned (.agg #[.int .i64 st.f0, v]) ∧ Hid (Kd.R k104 104 w' W.heap.size (fun _ => True) v st.f1) ∧ Hid (Below W.heap.size W w')) := fun W hW => copyState65 st A10 c10 W (Kd.C_below g10 hW) l10 hz1
    have HCp : Hid (∀ W, Below WP.heap.size WP W → Calls Try.prog 64 #[.slice A11 pd.length c11] W fun e w' => ∃ v, e = .returned v ∧ Hid (Kd.R k45 45 w' W.heap.size (fun _ => True) v pd) ∧ Hid (Below W.heap.size W w')) := fun W hW => copyRecords64 pd A11 c11 W (Kd.C_below g11 hW) l11 hz2
    have q4 : WP.cell? ⟨g, 4, none⟩ = some (.slice A n c) := by rw [Hn.out]; exact blk_at HXP.out.hb 4 rfl
    rw [hA] at q4
    have q9 := e9
    have q10 := e10
    have q11 := e11
    have i1 : (0 : Int) ≤ (m : Int) := by omega
    have i2 : (m : Int) < (n : Int) := by omega
    clear e9 e10 e11 l10 g10 l11 g11 hst hpd hst2 hpd2 hz1 hz2
    go_cut [7] (fun s7 wx => ∃ nb B1 d1 B2 d2, s7 = .pointer (some ⟨nb, 0, none⟩) ∧ Hid (wx.heap[nb]? = some (.cells #[.int .i64 st.f0, .slice B1 st.f1.length d1, .slice none 0 0, .slice B2 pd.length d2] 55 (0, 0))) ∧ Hid (Kd.R k104 104 wx WP.heap.size (fun _ => True) (.slice B1 st.f1.length d1) st.f1) ∧ Hid (Kd.R k45 45 wx WP.heap.size (fun _ => True) (.slice B2 pd.length d2) pd) ∧ Hid (WP.heap.size ≤ nb) ∧ Hid (Below WP.heap.size WP wx))
    case first =>
        refine start_ (n := 21) (S := (fun w' => w'.cell? ⟨g, 4, none⟩ = some (.slice (some ad) n c) ∧ w'.cell? ⟨(ad.add (m * 12)).block, (ad.add (m * 12)).off + 9, none⟩ = some (.int .i64 st.f0) ∧ w'.cell? ⟨(ad.add (m * 12)).block, (ad.add (m * 12)).off + 10, none⟩ = some (.slice A10 st.f1.length c10) ∧ w'.cell? ⟨(ad.add (m * 12)).block, (ad.add (m * 12)).off + 11, none⟩ = some (.slice A11 pd.length c11))) (ds := [20]) #[false, false, false, false, false, false, false, false, false, false, false, false, false, false, false, false, false, false, false, false, false] (by kernel_rfl) rfl rfl ⟨q4, q9, q10, q11⟩ (fun hHeld => ?_)
        clear q4 q9 q10 q11
        have HB0 : Hid (Below WP.heap.size WP WP.drew) := (Below.refl _ _).drew
        generalize WP.drew = W0 at hHeld HB0 ⊢
        refine pure_ (i := 0) (N := some 37) (v := ?_) (a' := ?_) #[true, false, false, false, false, false, false, false, false, false, false, false, false, false, false, false, false, false, false, false, false] rfl rfl (by kernel_rfl) (fun _ _ _ h => h) (Or.inl ⟨by rfl, ?_⟩) ?_ ?_
        rotate_left
        · intro w'
          go_simp
          with_reducible rfl
        rotate_left
        · simp only [Act.put, List.setIfInBounds_toArray, List.set_cons_zero, List.set_cons_succ]
          rfl
        refine pure_ (i := 1) (N := some 38) (v := ?_) (a' := ?_) #[true, true, false, false, false, false, false, false, false, false, false, false, false, false, false, false, false, false, false, false, false] rfl rfl (by kernel_rfl) (fun _ _ _ h => h) (Or.inl ⟨by rfl, ?_⟩) ?_ ?_
        rotate_left
        · intro w'
          go_simp
          with_reducible rfl
        rotate_left
        · simp only [Act.put, List.setIfInBounds_toArray, List.set_cons_zero, List.set_cons_succ]
          rfl
        refine pure_ (i := 2) (N := some 39) (v := ?_) (a' := ?_) #[true, true, true, false, false, false, false, false, false, false, false, false, false, false, false, false, false, false, false, false, false] rfl rfl (by kernel_rfl) (fun _ _ _ h => h) (Or.inl ⟨by rfl, ?_⟩) ?_ ?_
        rotate_left
        · intro w'
          go_simp
          with_reducible rfl
        rotate_left
        · simp only [Act.put, List.setIfInBounds_toArray, List.set_cons_zero, List.set_cons_succ]
          rfl
        refine take_ (i := 3) (N := some 40) (v := ?_) (a' := ?_) #[true, true, true, true, false, false, false, false, false, false, false, false, false, false, false, false, false, false, false, false, false] rfl rfl (by kernel_rfl) (fun _ _ _ h => h) (Or.inl ⟨by rfl, ?_⟩) hHeld ?_ ?_
        rotate_left
        · rintro w' ⟨s0, s1, s2, s3⟩
          go_simp
          with_reducible rfl
        rotate_left
        · simp only [Act.put, List.setIfInBounds_toArray, List.set_cons_zero, List.set_cons_succ]
          rfl
        refine pure_ (i := 4) (N := some 41) (v := ?_) (a' := ?_) #[true, true, true, true, true, false, false, false, false, false, false, false, false, false, false, false, false, false, false, false, false] rfl rfl (by kernel_rfl) (fun _ _ _ h => h) (Or.inl ⟨by rfl, ?_⟩) ?_ ?_
        rotate_left
        · intro w'
          go_simp
          with_reducible rfl
        rotate_left
        · simp only [Act.put, List.setIfInBounds_toArray, List.set_cons_zero, List.set_cons_succ]
          rfl
        refine pure_ (i := 5) (N := some 42) (v := ?_) (a' := ?_) #[true, true, true, true, true, true, false, false, false, false, false, false, false, false, false, false, false, false, false, false, false] rfl rfl (by kernel_rfl) (fun _ _ _ h => h) (Or.inl ⟨by rfl, ?_⟩) ?_ ?_
        rotate_left
        · intro w'
          go_simp
          with_reducible rfl
        rotate_left
        · simp only [Act.put, List.setIfInBounds_toArray, List.set_cons_zero, List.set_cons_succ]
          rfl
        refine pure_ (i := 6) (N := some 43) (v := ?_) (a' := ?_) #[true, true, true, true, true, true, true, false, false, false, false, false, false, false, false, false, false, false, false, false, false] rfl rfl (by kernel_rfl) (fun _ _ _ h => h) (Or.inl ⟨by rfl, ?_⟩) ?_ ?_
        rotate_left
        · intro w'
          go_simp
          with_reducible rfl
        rotate_left
        · simp only [Act.put, List.setIfInBounds_toArray, List.set_cons_zero, List.set_cons_succ]
          rfl
        refine take_ (i := 7) (N := some 44) (v := ?_) (a' := ?_) #[true, true, true, true, true, true, true, true, false, false, false, false, false, false, false, false, false, false, false, false, false] rfl rfl (by kernel_rfl) (fun _ _ _ h => h) (Or.inl ⟨by rfl, ?_⟩) hHeld ?_ ?_
        rotate_left
        · rintro w' ⟨s0, s1, s2, s3⟩
          go_simp
          with_reducible rfl
        rotate_left
        · simp only [Act.put, List.setIfInBounds_toArray, List.set_cons_zero, List.set_cons_succ]
          rfl
        refine pure_ (i := 9) (N := some 46) (v := ?_) (a' := ?_) #[true, true, true, true, true, true, true, true, false, true, false, false, false, false, false, false, false, false, false, false, false] rfl rfl (by kernel_rfl) (fun _ _ _ h => h) (Or.inl ⟨by rfl, ?_⟩) ?_ ?_
        rotate_left
        · intro w'
          go_simp
          with_reducible rfl
        rotate_left
        · simp only [Act.put, List.setIfInBounds_toArray, List.set_cons_zero, List.set_cons_succ]
          rfl
        refine pure_ (i := 10) (N := some 47) (v := ?_) (a' := ?_) #[true, true, true, true, true, true, true, true, false, true, true, false, false, false, false, false, false, false, false, false, false] rfl rfl (by kernel_rfl) (fun _ _ _ h => h) (Or.inl ⟨by rfl, ?_⟩) ?_ ?_
        rotate_left
        · intro w'
          go_simp
          with_reducible rfl
        rotate_left
        · simp only [Act.put, List.setIfInBounds_toArray, List.set_cons_zero, List.set_cons_succ]
          rfl
        refine pure_ (i := 11) (N := some 48) (v := ?_) (a' := ?_) #[true, true, true, true, true, true, true, true, false, true, true, true, false, false, false, false, false, false, false, false, false] rfl rfl (by kernel_rfl) (fun _ _ _ h => h) (Or.inl ⟨by rfl, ?_⟩) ?_ ?_
        rotate_left
        · intro w'
          go_simp
          with_reducible rfl
        rotate_left
        · simp only [Act.put, List.setIfInBounds_toArray, List.set_cons_zero, List.set_cons_succ]
          rfl
        refine take_ (i := 12) (N := some 49) (v := ?_) (a' := ?_) #[true, true, true, true, true, true, true, true, false, true, true, true, true, false, false, false, false, false, false, false, false] rfl rfl (by kernel_rfl) (fun _ _ _ h => h) (Or.inl ⟨by rfl, ?_⟩) hHeld ?_ ?_
        rotate_left
        · rintro w' ⟨s0, s1, s2, s3⟩
          go_simp
          with_reducible rfl
        rotate_left
        · simp only [Act.put, List.setIfInBounds_toArray, List.set_cons_zero, List.set_cons_succ]
          rfl
        refine pure_ (i := 13) (N := some 50) (v := ?_) (a' := ?_) #[true, true, true, true, true, true, true, true, false, true, true, true, true, true, false, false, false, false, false, false, false] rfl rfl (by kernel_rfl) (fun _ _ _ h => h) (Or.inl ⟨by rfl, ?_⟩) ?_ ?_
        rotate_left
        · intro w'
          go_simp
          with_reducible rfl
        rotate_left
        · simp only [Act.put, List.setIfInBounds_toArray, List.set_cons_zero, List.set_cons_succ]
          rfl
        refine pure_ (i := 14) (N := some 51) (v := ?_) (a' := ?_) #[true, true, true, true, true, true, true, true, false, true, true, true, true, true, true, false, false, false, false, false, false] rfl rfl (by kernel_rfl) (fun _ _ _ h => h) (Or.inl ⟨by rfl, ?_⟩) ?_ ?_
        rotate_left
        · intro w'
          go_simp
          with_reducible rfl
        rotate_left
        · simp only [Act.put, List.setIfInBounds_toArray, List.set_cons_zero, List.set_cons_succ]
          rfl
        refine pure_ (i := 15) (N := some 52) (v := ?_) (a' := ?_) #[true, true, true, true, true, true, true, true, false, true, true, true, true, true, true, true, false, false, false, false, false] rfl rfl (by kernel_rfl) (fun _ _ _ h => h) (Or.inl ⟨by rfl, ?_⟩) ?_ ?_
        rotate_left
        · intro w'
          go_simp
          with_reducible rfl
        rotate_left
        · simp only [Act.put, List.setIfInBounds_toArray, List.set_cons_zero, List.set_cons_succ]
          rfl
        refine take_ (i := 16) (N := some 53) (v := ?_) (a' := ?_) #[true, true, true, true, true, true, true, true, false, true, true, true, true, true, true, true, true, false, false, false, false] rfl rfl (by kernel_rfl) (fun _ _ _ h => h) (Or.inl ⟨by rfl, ?_⟩) hHeld ?_ ?_
        rotate_left
        · rintro w' ⟨s0, s1, s2, s3⟩
          go_simp
          with_reducible rfl
        rotate_left
        · simp only [Act.put, List.setIfInBounds_toArray, List.set_cons_zero, List.set_cons_succ]
          rfl
        refine two_ (i := 8) (j := 19) (Ni := some 45) (Nj := some 7) #[true, true, true, true, true, true, true, true, true, true, true, true, true, true, true, true, true, false, false, false, false] #[true, true, true, true, true, true, true, true, false, true, true, true, true, true, true, true, true, false, false, true, false] rfl rfl rfl rfl (by kernel_rfl) (by decide) (by decide) (fun K hK => ?_) (fun K hK => ?_)
        · refine goes_ Try.func65 (by kernel_rfl) rfl #[.agg #[.int .i64 st.f0, .slice A10 st.f1.length c10]] (by rfl) rfl rfl (by simp only [List.map_toArray, List.map_cons, List.map_nil]; rfl) ?_
          refine (HCs.out W0 HB0.out).mono ?_
          rintro e W1 ⟨u8, rfl, hu, hb⟩
          refine ⟨_, rfl, ?_⟩
          obtain ⟨B1, d1, rfl⟩ := Kd.R_slice hu.out
          have HB1 : Hid (Below WP.heap.size WP W1) := HB0.out.trans (hb.out.mono HB0.out.size)
          have HU11 : Hid (Kd.R k104 104 W1 WP.heap.size (fun _ => True) (.slice B1 st.f1.length d1) st.f1) := Kd.R_lower hu.out HB0.out.size
          refine hK.out _ _ ⟨pw_cell_below hb.out hHeld.1, pw_cell_below hb.out hHeld.2.1, pw_cell_below hb.out hHeld.2.2.1, pw_cell_below hb.out hHeld.2.2.2⟩ (fun hHeld => ?_)
          clear hK K hu hb
          refine norm_ (a' := ?_) ?_ ?_
          rotate_left
          · show Act.put _ (some 45) _ = _
            simp only [Act.put, List.setIfInBounds_toArray, List.set_cons_zero, List.set_cons_succ]
            rfl
          refine two_ (i := 17) (j := 19) (Ni := some 54) (Nj := some 7) #[true, true, true, true, true, true, true, true, true, true, true, true, true, true, true, true, true, true, false, false, false] #[true, true, true, true, true, true, true, true, true, true, true, true, true, true, true, true, true, false, false, true, false] rfl rfl rfl rfl (by kernel_rfl) (by decide) (by decide) (fun K hK => ?_) (fun K hK => ?_)
          · refine goes_ Try.func64 (by kernel_rfl) rfl #[.slice A11 pd.length c11] (by rfl) rfl rfl (by simp only [List.map_toArray, List.map_cons, List.map_nil]; rfl) ?_
            refine (HCp.out W1 HB1.out).mono ?_
            rintro e W2 ⟨u17, rfl, hu, hb⟩
            refine ⟨_, rfl, ?_⟩
            obtain ⟨B2, d2, rfl⟩ := Kd.R_slice hu.out
            have HB2 : Hid (Below WP.heap.size WP W2) := HB1.out.trans (hb.out.mono HB1.out.size)
            have HU12 : Hid (Kd.R k104 104 W2 WP.heap.size (fun _ => True) (.slice B1 st.f1.length d1) st.f1) := Kd.R_below HU11.out hb.out
            have HU22 : Hid (Kd.R k45 45 W2 WP.heap.size (fun _ => True) (.slice B2 pd.length d2) pd) := Kd.R_lower hu.out HB1.out.size
            refine hK.out _ _ ⟨pw_cell_below hb.out hHeld.1, pw_cell_below hb.out hHeld.2.1, pw_cell_below hb.out hHeld.2.2.1, pw_cell_below hb.out hHeld.2.2.2⟩ (fun hHeld => ?_)
            clear hK K hu hb
            refine norm_ (a' := ?_) ?_ ?_
            rotate_left
            · show Act.put _ (some 54) _ = _
              simp only [Act.put, List.setIfInBounds_toArray, List.set_cons_zero, List.set_cons_succ]
              rfl
            refine pure_ (i := 18) (N := some 55) (v := ?_) (a' := ?_) #[true, true, true, true, true, true, true, true, true, true, true, true, true, true, true, true, true, true, true, false, false] rfl rfl (by kernel_rfl) (fun _ _ _ h => h) (Or.inl ⟨by rfl, ?_⟩) ?_ ?_
            rotate_left
            · intro w'
              go_simp
              with_reducible rfl
            rotate_left
            · simp only [Act.put, List.setIfInBounds_toArray, List.set_cons_zero, List.set_cons_succ]
              rfl
            refine one_ (i := 19) (N := some 7) #[true, true, true, true, true, true, true, true, true, true, true, true, true, true, true, true, true, true, true, true, false] rfl rfl (by kernel_rfl) (by decide) (fun K hK => ?_)
            obtain ⟨nb, hnb⟩ : ∃ nb, nb = W2.heap.size := ⟨_, rfl⟩
            refine value_ (w1 := (W2.alloc (.cells #[.int .i64 0, .slice none 0 0, .slice none 0 0, .slice none 0 0] 55))) (v := .pointer (some ⟨nb, 0, none⟩)) (by rfl) rfl (by rw [hnb]; go_simp) ?_
            have hal : Below W2.heap.size W2 (W2.alloc (.cells #[.int .i64 0, .slice none 0 0, .slice none 0 0, .slice none 0 0] 55)) := (Below.refl _ _).alloc (Nat.le_refl _) _
            have HG3 : Hid ((W2.alloc (.cells #[.int .i64 0, .slice none 0 0, .slice none 0 0, .slice none 0 0] 55)).heap[nb]? = some (.cells #[.int .i64 0, .slice none 0 0, .slice none 0 0, .slice none 0 0] 55 (0, 0))) := by rw [hnb]; exact Lib.hid (blk_new _ _)
            have hnbE : WP.heap.size ≤ nb := by rw [hnb]; exact HB2.out.size
            refine hK.out _ _ ⟨pw_cell_below hal hHeld.1, pw_cell_below hal hHeld.2.1, pw_cell_below hal hHeld.2.2.1, pw_cell_below hal hHeld.2.2.2⟩ (fun hHeld => ?_)
            clear hK K hnb
            generalize (W2.alloc (.cells #[.int .i64 0, .slice none 0 0, .slice none 0 0, .slice none 0 0] 55)) = W3 at hHeld hal HG3 ⊢
            have HB3 : Hid (Below WP.heap.size WP W3) := HB2.out.trans (hal.mono HB2.out.size)
            have HU13 : Hid (Kd.R k104 104 W3 WP.heap.size (fun _ => True) (.slice B1 st.f1.length d1) st.f1) := Kd.R_below HU12.out hal
            have HU23 : Hid (Kd.R k45 45 W3 WP.heap.size (fun _ => True) (.slice B2 pd.length d2) pd) := Kd.R_below HU22.out hal
            clear hal
            refine norm_ (a' := ?_) ?_ ?_
            rotate_left
            · show Act.put _ (some 7) _ = _
              simp only [Act.put, List.setIfInBounds_toArray, List.set_cons_zero, List.set_cons_succ]
              rfl
            refine last_ (i := 20) (N := none) #[true, true, true, true, true, true, true, true, true, true, true, true, true, true, true, true, true, true, true, true, true] rfl rfl (by kernel_rfl) (by decide) (fun K hK => ?_)
            skip
            have x0 : W3.cell? ⟨nb, 0, none⟩ = some (.int .i64 0) := blk_at HG3.out 0 rfl
            have z0 : W3.frozen? ⟨nb, 0, none⟩ = false := blk_frozen HG3.out 0
            have x1 : W3.cell? ⟨nb, 1, none⟩ = some (.slice none 0 0) := blk_at HG3.out 1 rfl
            have z1 : W3.frozen? ⟨nb, 1, none⟩ = false := blk_frozen HG3.out 1
            have x2 : W3.cell? ⟨nb, 2, none⟩ = some (.slice none 0 0) := blk_at HG3.out 2 rfl
            have z2 : W3.frozen? ⟨nb, 2, none⟩ = false := blk_frozen HG3.out 2
            have x3 : W3.cell? ⟨nb, 3, none⟩ = some (.slice none 0 0) := blk_at HG3.out 3 rfl
            have z3 : W3.frozen? ⟨nb, 3, none⟩ = false := blk_frozen HG3.out 3
            refine skip_ (w1 := ((((W3.setCell ⟨nb, 0, none⟩ (.int .i64 st.f0)).setCell ⟨nb, 1, none⟩ (.slice B1 st.f1.length d1)).setCell ⟨nb, 2, none⟩ (.slice none 0 0)).setCell ⟨nb, 3, none⟩ (.slice B2 pd.length d2))) (by rfl) rfl (by go_simp) ?_
            refine hK.out _ _ ?_
            clear hK K x0 z0 x1 z1 x2 z2 x3 z3
            refine done_ (by kernel_rfl) ?_
            clear hHeld
            go_wp2_with fail
            go_meet
            exact ⟨nb, B1, d1, B2, d2, rfl, Lib.hid (blk_put (blk_put (blk_put (blk_put HG3.out 0 (.int .i64 st.f0) rfl) 1 (.slice B1 st.f1.length d1) rfl) 2 (.slice none 0 0) rfl) 3 (.slice B2 pd.length d2) rfl), Lib.hid (Kd.R_set (Kd.R_set (Kd.R_set (Kd.R_set HU13.out HG3.out e104 0 (.int .i64 st.f0)) (blk_put HG3.out 0 (.int .i64 st.f0) rfl) e104 1 (.slice B1 st.f1.length d1)) (blk_put (blk_put HG3.out 0 (.int .i64 st.f0) rfl) 1 (.slice B1 st.f1.length d1) rfl) e104 2 (.slice none 0 0)) (blk_put (blk_put (blk_put HG3.out 0 (.int .i64 st.f0) rfl) 1 (.slice B1 st.f1.length d1) rfl) 2 (.slice none 0 0) rfl) e104 3 (.slice B2 pd.length d2)), Lib.hid (Kd.R_set (Kd.R_set (Kd.R_set (Kd.R_set HU23.out HG3.out e45 0 (.int .i64 st.f0)) (blk_put HG3.out 0 (.int .i64 st.f0) rfl) e45 1 (.slice B1 st.f1.length d1)) (blk_put (blk_put HG3.out 0 (.int .i64 st.f0) rfl) 1 (.slice B1 st.f1.length d1) rfl) e45 2 (.slice none 0 0)) (blk_put (blk_put (blk_put HG3.out 0 (.int .i64 st.f0) rfl) 1 (.slice B1 st.f1.length d1) rfl) 2 (.slice none 0 0) rfl) e45 3 (.slice B2 pd.length d2)), Lib.hid hnbE, Lib.hid ((((((((HB3.out).setCell hnbE _)).setCell hnbE _)).setCell hnbE _)).setCell hnbE _)⟩
          · obtain ⟨nb, hnb⟩ : ∃ nb, nb = W1.heap.size := ⟨_, rfl⟩
            refine value_ (w1 := (W1.alloc (.cells #[.int .i64 0, .slice none 0 0, .slice none 0 0, .slice none 0 0] 55))) (v := .pointer (some ⟨nb, 0, none⟩)) (by rfl) rfl (by rw [hnb]; go_simp) ?_
            have hal : Below W1.heap.size W1 (W1.alloc (.cells #[.int .i64 0, .slice none 0 0, .slice none 0 0, .slice none 0 0] 55)) := (Below.refl _ _).alloc (Nat.le_refl _) _
            have HG2 : Hid ((W1.alloc (.cells #[.int .i64 0, .slice none 0 0, .slice none 0 0, .slice none 0 0] 55)).heap[nb]? = some (.cells #[.int .i64 0, .slice none 0 0, .slice none 0 0, .slice none 0 0] 55 (0, 0))) := by rw [hnb]; exact Lib.hid (blk_new _ _)
            have hnbE : WP.heap.size ≤ nb := by rw [hnb]; exact HB1.out.size
            refine hK.out _ _ ⟨pw_cell_below hal hHeld.1, pw_cell_below hal hHeld.2.1, pw_cell_below hal hHeld.2.2.1, pw_cell_below hal hHeld.2.2.2⟩ (fun hHeld => ?_)
            clear hK K hnb
            generalize (W1.alloc (.cells #[.int .i64 0, .slice none 0 0, .slice none 0 0, .slice none 0 0] 55)) = W2 at hHeld hal HG2 ⊢
            have HB2 : Hid (Below WP.heap.size WP W2) := HB1.out.trans (hal.mono HB1.out.size)
            have HU12 : Hid (Kd.R k104 104 W2 WP.heap.size (fun _ => True) (.slice B1 st.f1.length d1) st.f1) := Kd.R_below HU11.out hal
            clear hal
            refine norm_ (a' := ?_) ?_ ?_
            rotate_left
            · show Act.put _ (some 7) _ = _
              simp only [Act.put, List.setIfInBounds_toArray, List.set_cons_zero, List.set_cons_succ]
              rfl
            refine one_ (i := 17) (N := some 54) #[true, true, true, true, true, true, true, true, true, true, true, true, true, true, true, true, true, true, false, true, false] rfl rfl (by kernel_rfl) (by decide) (fun K hK => ?_)
            refine goes_ Try.func64 (by kernel_rfl) rfl #[.slice A11 pd.length c11] (by rfl) rfl rfl (by simp only [List.map_toArray, List.map_cons, List.map_nil]; rfl) ?_
            refine (HCp.out W2 HB2.out).mono ?_
            rintro e W3 ⟨u17, rfl, hu, hb⟩
            refine ⟨_, rfl, ?_⟩
            obtain ⟨B2, d2, rfl⟩ := Kd.R_slice hu.out
            have HB3 : Hid (Below WP.heap.size WP W3) := HB2.out.trans (hb.out.mono HB2.out.size)
            have HG3 : Hid (W3.heap[nb]? = some (.cells #[.int .i64 0, .slice none 0 0, .slice none 0 0, .slice none 0 0] 55 (0, 0))) := (hb.out.block _ (blk_lt HG2.out)).trans HG2.out
            have HU13 : Hid (Kd.R k104 104 W3 WP.heap.size (fun _ => True) (.slice B1 st.f1.length d1) st.f1) := Kd.R_below HU12.out hb.out
            have HU23 : Hid (Kd.R k45 45 W3 WP.heap.size (fun _ => True) (.slice B2 pd.length d2) pd) := Kd.R_lower hu.out HB2.out.size
            refine hK.out _ _ ⟨pw_cell_below hb.out hHeld.1, pw_cell_below hb.out hHeld.2.1, pw_cell_below hb.out hHeld.2.2.1, pw_cell_below hb.out hHeld.2.2.2⟩ (fun hHeld => ?_)
            clear hK K hu hb
            refine norm_ (a' := ?_) ?_ ?_
            rotate_left
            · show Act.put _ (some 54) _ = _
              simp only [Act.put, List.setIfInBounds_toArray, List.set_cons_zero, List.set_cons_succ]
              rfl
            refine pure_ (i := 18) (N := some 55) (v := ?_) (a' := ?_) #[true, true, true, true, true, true, true, true, true, true, true, true, true, true, true, true, true, true, true, true, false] rfl rfl (by kernel_rfl) (fun _ _ _ h => h) (Or.inl ⟨by rfl, ?_⟩) ?_ ?_
            rotate_left
            · intro w'
              go_simp
              with_reducible rfl
            rotate_left
            · simp only [Act.put, List.setIfInBounds_toArray, List.set_cons_zero, List.set_cons_succ]
              rfl
            refine last_ (i := 20) (N := none) #[true, true, true, true, true, true, true, true, true, true, true, true, true, true, true, true, true, true, true, true, true] rfl rfl (by kernel_rfl) (by decide) (fun K hK => ?_)
            skip
            have x0 : W3.cell? ⟨nb, 0, none⟩ = some (.int .i64 0) := blk_at HG3.out 0 rfl
            have z0 : W3.frozen? ⟨nb, 0, none⟩ = false := blk_frozen HG3.out 0
            have x1 : W3.cell? ⟨nb, 1, none⟩ = some (.slice none 0 0) := blk_at HG3.out 1 rfl
            have z1 : W3.frozen? ⟨nb, 1, none⟩ = false := blk_frozen HG3.out 1
            have x2 : W3.cell? ⟨nb, 2, none⟩ = some (.slice none 0 0) := blk_at HG3.out 2 rfl
            have z2 : W3.frozen? ⟨nb, 2, none⟩ = false := blk_frozen HG3.out 2
            have x3 : W3.cell? ⟨nb, 3, none⟩ = some (.slice none 0 0) := blk_at HG3.out 3 rfl
            have z3 : W3.frozen? ⟨nb, 3, none⟩ = false := blk_frozen HG3.out 3
            refine skip_ (w1 := ((((W3.setCell ⟨nb, 0, none⟩ (.int .i64 st.f0)).setCell ⟨nb, 1, none⟩ (.slice B1 st.f1.length d1)).setCell ⟨nb, 2, none⟩ (.slice none 0 0)).setCell ⟨nb, 3, none⟩ (.slice B2 pd.length d2))) (by rfl) rfl (by go_simp) ?_
            refine hK.out _ _ ?_
            clear hK K x0 z0 x1 z1 x2 z2 x3 z3
            refine done_ (by kernel_rfl) ?_
            clear hHeld
            go_wp2_with fail
            go_meet
            exact ⟨nb, B1, d1, B2, d2, rfl, Lib.hid (blk_put (blk_put (blk_put (blk_put HG3.out 0 (.int .i64 st.f0) rfl) 1 (.slice B1 st.f1.length d1) rfl) 2 (.slice none 0 0) rfl) 3 (.slice B2 pd.length d2) rfl), Lib.hid (Kd.R_set (Kd.R_set (Kd.R_set (Kd.R_set HU13.out HG3.out e104 0 (.int .i64 st.f0)) (blk_put HG3.out 0 (.int .i64 st.f0) rfl) e104 1 (.slice B1 st.f1.length d1)) (blk_put (blk_put HG3.out 0 (.int .i64 st.f0) rfl) 1 (.slice B1 st.f1.length d1) rfl) e104 2 (.slice none 0 0)) (blk_put (blk_put (blk_put HG3.out 0 (.int .i64 st.f0) rfl) 1 (.slice B1 st.f1.length d1) rfl) 2 (.slice none 0 0) rfl) e104 3 (.slice B2 pd.length d2)), Lib.hid (Kd.R_set (Kd.R_set (Kd.R_set (Kd.R_set HU23.out HG3.out e45 0 (.int .i64 st.f0)) (blk_put HG3.out 0 (.int .i64 st.f0) rfl) e45 1 (.slice B1 st.f1.length d1)) (blk_put (blk_put HG3.out 0 (.int .i64 st.f0) rfl) 1 (.slice B1 st.f1.length d1) rfl) e45 2 (.slice none 0 0)) (blk_put (blk_put (blk_put HG3.out 0 (.int .i64 st.f0) rfl) 1 (.slice B1 st.f1.length d1) rfl) 2 (.slice none 0 0) rfl) e45 3 (.slice B2 pd.length d2)), Lib.hid hnbE, Lib.hid ((((((((HB3.out).setCell hnbE _)).setCell hnbE _)).setCell hnbE _)).setCell hnbE _)⟩
        · obtain ⟨nb, hnb⟩ : ∃ nb, nb = W0.heap.size := ⟨_, rfl⟩
          refine value_ (w1 := (W0.alloc (.cells #[.int .i64 0, .slice none 0 0, .slice none 0 0, .slice none 0 0] 55))) (v := .pointer (some ⟨nb, 0, none⟩)) (by rfl) rfl (by rw [hnb]; go_simp) ?_
          have hal : Below W0.heap.size W0 (W0.alloc (.cells #[.int .i64 0, .slice none 0 0, .slice none 0 0, .slice none 0 0] 55)) := (Below.refl _ _).alloc (Nat.le_refl _) _
          have HG1 : Hid ((W0.alloc (.cells #[.int .i64 0, .slice none 0 0, .slice none 0 0, .slice none 0 0] 55)).heap[nb]? = some (.cells #[.int .i64 0, .slice none 0 0, .slice none 0 0, .slice none 0 0] 55 (0, 0))) := by rw [hnb]; exact Lib.hid (blk_new _ _)
          have hnbE : WP.heap.size ≤ nb := by rw [hnb]; exact HB0.out.size
          refine hK.out _ _ ⟨pw_cell_below hal hHeld.1, pw_cell_below hal hHeld.2.1, pw_cell_below hal hHeld.2.2.1, pw_cell_below hal hHeld.2.2.2⟩ (fun hHeld => ?_)
          clear hK K hnb
          generalize (W0.alloc (.cells #[.int .i64 0, .slice none 0 0, .slice none 0 0, .slice none 0 0] 55)) = W1 at hHeld hal HG1 ⊢
          have HB1 : Hid (Below WP.heap.size WP W1) := HB0.out.trans (hal.mono HB0.out.size)
          clear hal
          refine norm_ (a' := ?_) ?_ ?_
          rotate_left
          · show Act.put _ (some 7) _ = _
            simp only [Act.put, List.setIfInBounds_toArray, List.set_cons_zero, List.set_cons_succ]
            rfl
          refine one_ (i := 8) (N := some 45) #[true, true, true, true, true, true, true, true, true, true, true, true, true, true, true, true, true, false, false, true, false] rfl rfl (by kernel_rfl) (by decide) (fun K hK => ?_)
          refine goes_ Try.func65 (by kernel_rfl) rfl #[.agg #[.int .i64 st.f0, .slice A10 st.f1.length c10]] (by rfl) rfl rfl (by simp only [List.map_toArray, List.map_cons, List.map_nil]; rfl) ?_
          refine (HCs.out W1 HB1.out).mono ?_
          rintro e W2 ⟨u8, rfl, hu, hb⟩
          refine ⟨_, rfl, ?_⟩
          obtain ⟨B1, d1, rfl⟩ := Kd.R_slice hu.out
          have HB2 : Hid (Below WP.heap.size WP W2) := HB1.out.trans (hb.out.mono HB1.out.size)
          have HG2 : Hid (W2.heap[nb]? = some (.cells #[.int .i64 0, .slice none 0 0, .slice none 0 0, .slice none 0 0] 55 (0, 0))) := (hb.out.block _ (blk_lt HG1.out)).trans HG1.out
          have HU12 : Hid (Kd.R k104 104 W2 WP.heap.size (fun _ => True) (.slice B1 st.f1.length d1) st.f1) := Kd.R_lower hu.out HB1.out.size
          refine hK.out _ _ ⟨pw_cell_below hb.out hHeld.1, pw_cell_below hb.out hHeld.2.1, pw_cell_below hb.out hHeld.2.2.1, pw_cell_below hb.out hHeld.2.2.2⟩ (fun hHeld => ?_)
          clear hK K hu hb
          refine norm_ (a' := ?_) ?_ ?_
          rotate_left
          · show Act.put _ (some 45) _ = _
            simp only [Act.put, List.setIfInBounds_toArray, List.set_cons_zero, List.set_cons_succ]
            rfl
          refine one_ (i := 17) (N := some 54) #[true, true, true, true, true, true, true, true, true, true, true, true, true, true, true, true, true, true, false, true, false] rfl rfl (by kernel_rfl) (by decide) (fun K hK => ?_)
          refine goes_ Try.func64 (by kernel_rfl) rfl #[.slice A11 pd.length c11] (by rfl) rfl rfl (by simp only [List.map_toArray, List.map_cons, List.map_nil]; rfl) ?_
          refine (HCp.out W2 HB2.out).mono ?_
          rintro e W3 ⟨u17, rfl, hu, hb⟩
          refine ⟨_, rfl, ?_⟩
          obtain ⟨B2, d2, rfl⟩ := Kd.R_slice hu.out
          have HB3 : Hid (Below WP.heap.size WP W3) := HB2.out.trans (hb.out.mono HB2.out.size)
          have HG3 : Hid (W3.heap[nb]? = some (.cells #[.int .i64 0, .slice none 0 0, .slice none 0 0, .slice none 0 0] 55 (0, 0))) := (hb.out.block _ (blk_lt HG2.out)).trans HG2.out
          have HU13 : Hid (Kd.R k104 104 W3 WP.heap.size (fun _ => True) (.slice B1 st.f1.length d1) st.f1) := Kd.R_below HU12.out hb.out
          have HU23 : Hid (Kd.R k45 45 W3 WP.heap.size (fun _ => True) (.slice B2 pd.length d2) pd) := Kd.R_lower hu.out HB2.out.size
          refine hK.out _ _ ⟨pw_cell_below hb.out hHeld.1, pw_cell_below hb.out hHeld.2.1, pw_cell_below hb.out hHeld.2.2.1, pw_cell_below hb.out hHeld.2.2.2⟩ (fun hHeld => ?_)
          clear hK K hu hb
          refine norm_ (a' := ?_) ?_ ?_
          rotate_left
          · show Act.put _ (some 54) _ = _
            simp only [Act.put, List.setIfInBounds_toArray, List.set_cons_zero, List.set_cons_succ]
            rfl
          refine pure_ (i := 18) (N := some 55) (v := ?_) (a' := ?_) #[true, true, true, true, true, true, true, true, true, true, true, true, true, true, true, true, true, true, true, true, false] rfl rfl (by kernel_rfl) (fun _ _ _ h => h) (Or.inl ⟨by rfl, ?_⟩) ?_ ?_
          rotate_left
          · intro w'
            go_simp
            with_reducible rfl
          rotate_left
          · simp only [Act.put, List.setIfInBounds_toArray, List.set_cons_zero, List.set_cons_succ]
            rfl
          refine last_ (i := 20) (N := none) #[true, true, true, true, true, true, true, true, true, true, true, true, true, true, true, true, true, true, true, true, true] rfl rfl (by kernel_rfl) (by decide) (fun K hK => ?_)
          skip
          have x0 : W3.cell? ⟨nb, 0, none⟩ = some (.int .i64 0) := blk_at HG3.out 0 rfl
          have z0 : W3.frozen? ⟨nb, 0, none⟩ = false := blk_frozen HG3.out 0
          have x1 : W3.cell? ⟨nb, 1, none⟩ = some (.slice none 0 0) := blk_at HG3.out 1 rfl
          have z1 : W3.frozen? ⟨nb, 1, none⟩ = false := blk_frozen HG3.out 1
          have x2 : W3.cell? ⟨nb, 2, none⟩ = some (.slice none 0 0) := blk_at HG3.out 2 rfl
          have z2 : W3.frozen? ⟨nb, 2, none⟩ = false := blk_frozen HG3.out 2
          have x3 : W3.cell? ⟨nb, 3, none⟩ = some (.slice none 0 0) := blk_at HG3.out 3 rfl
          have z3 : W3.frozen? ⟨nb, 3, none⟩ = false := blk_frozen HG3.out 3
          refine skip_ (w1 := ((((W3.setCell ⟨nb, 0, none⟩ (.int .i64 st.f0)).setCell ⟨nb, 1, none⟩ (.slice B1 st.f1.length d1)).setCell ⟨nb, 2, none⟩ (.slice none 0 0)).setCell ⟨nb, 3, none⟩ (.slice B2 pd.length d2))) (by rfl) rfl (by go_simp) ?_
          refine hK.out _ _ ?_
          clear hK K x0 z0 x1 z1 x2 z2 x3 z3
          refine done_ (by kernel_rfl) ?_
          clear hHeld
          go_wp2_with fail
          go_meet
          exact ⟨nb, B1, d1, B2, d2, rfl, Lib.hid (blk_put (blk_put (blk_put (blk_put HG3.out 0 (.int .i64 st.f0) rfl) 1 (.slice B1 st.f1.length d1) rfl) 2 (.slice none 0 0) rfl) 3 (.slice B2 pd.length d2) rfl), Lib.hid (Kd.R_set (Kd.R_set (Kd.R_set (Kd.R_set HU13.out HG3.out e104 0 (.int .i64 st.f0)) (blk_put HG3.out 0 (.int .i64 st.f0) rfl) e104 1 (.slice B1 st.f1.length d1)) (blk_put (blk_put HG3.out 0 (.int .i64 st.f0) rfl) 1 (.slice B1 st.f1.length d1) rfl) e104 2 (.slice none 0 0)) (blk_put (blk_put (blk_put HG3.out 0 (.int .i64 st.f0) rfl) 1 (.slice B1 st.f1.length d1) rfl) 2 (.slice none 0 0) rfl) e104 3 (.slice B2 pd.length d2)), Lib.hid (Kd.R_set (Kd.R_set (Kd.R_set (Kd.R_set HU23.out HG3.out e45 0 (.int .i64 st.f0)) (blk_put HG3.out 0 (.int .i64 st.f0) rfl) e45 1 (.slice B1 st.f1.length d1)) (blk_put (blk_put HG3.out 0 (.int .i64 st.f0) rfl) 1 (.slice B1 st.f1.length d1) rfl) e45 2 (.slice none 0 0)) (blk_put (blk_put (blk_put HG3.out 0 (.int .i64 st.f0) rfl) 1 (.slice B1 st.f1.length d1) rfl) 2 (.slice none 0 0) rfl) e45 3 (.slice B2 pd.length d2)), Lib.hid hnbE, Lib.hid ((((((((HB3.out).setCell hnbE _)).setCell hnbE _)).setCell hnbE _)).setCell hnbE _)⟩
    case rest =>
      obtain ⟨nb, B1, d1, B2, d2, rfl, HGc, HSc, HPc, Hnb, HBc⟩ := hcut
      clear q4 q9 q10 q11 HCs HCp
      go_wp2
      go_loopw [8, 9] (fun v8 v9 wr => ∃ (p : Nat) (vl : Value), p ≤ pn ∧ v8 = .int .i64 p ∧ Hid (wr.heap[nb]? = some (.cells #[.int .i64 st.f0, .slice B1 st.f1.length d1, vl, .slice B2 pd.length d2] 55 (0, 0))) ∧ Hid (Kd.R (Kd.slice 45 k45) 35 wr WP.heap.size (fun _ => True) vl ((List.range p).map fun i => r.log (i : Nat))) ∧ Hid (Kd.R k104 104 wr WP.heap.size (fun _ => True) (.slice B1 st.f1.length d1) st.f1) ∧ Hid (Kd.R k45 45 wr WP.heap.size (fun _ => True) (.slice B2 pd.length d2) pd) ∧ Hid (Below WP.heap.size WP wr)) (fun v8 _ _ => pn - (intOf v8).toNat)
      case atStart => exact ⟨0, .slice none 0 0, Nat.zero_le _, rfl, HGc, Lib.hid (Kd.R_nil _ _ _ _ _), HSc, HPc, HBc⟩
      case round =>
        clear HGc HSc HPc HBc
        obtain ⟨p, vl, hk, rfl, HG_, HVL, HSr, HPr, HBP⟩ := hrel
        have HG := HG_
        clear HG_
        have hnbE := Hnb.out
        obtain ⟨Al, ml, cl, rfl⟩ := R_sliced HVL.out
        have HXr : Hid (RkAt wr base own g r.handedR A c) := HXP.out.below HBP.out
        have c1 : wr.cell? ⟨g, 1, none⟩ = some (.int .i64 pn) := by rw [← Hpn.out]; exact blk_at HXr.out.hb 1 rfl
        by_cases hlt : p < pn
        · have HL66 : Hid (Calls Try.prog 66 #[.pointer (some ⟨g, 0, none⟩), .int .i64 (p : Nat)] wr fun e w' => LogIs (r.log (p : Nat)) wr e w') := by
            have h1 := log66 HXr.out p (by rw [cop_handed, HM.out]; omega) (by rw [clo_handed]; exact HA.out p hlt) HSz.out.len HSz.out.ahead
            rw [log_handed] at h1
            exact h1
          have HLP := Lib.hid (HSz.out.log p)
          have hp12 : p ≤ 100 := by omega
          go_wp2_with (first
            | (go_at_call 66; refine HL66.out.mono ?_; rintro e w4 ⟨Ag, cg, rfl, hl1, hC, hb⟩
               have HG4 : Hid (w4.heap[nb]? = some (.cells #[.int .i64 st.f0, .slice B1 st.f1.length d1, .slice Al ml cl, .slice B2 pd.length d2] 55 (0, 0))) := (hb.block _ (blk_lt HG.out)).trans HG.out
               have HVL4 : Hid (Kd.R (Kd.slice 45 k45) 35 w4 WP.heap.size (fun _ => True) (.slice Al ml cl) ((List.range p).map fun i => r.log (i : Nat))) := Kd.R_below HVL.out hb
               have HS4 : Hid (Kd.R k104 104 w4 WP.heap.size (fun _ => True) (.slice B1 st.f1.length d1) st.f1) := Kd.R_below HSr.out hb
               have HP4 : Hid (Kd.R k45 45 w4 WP.heap.size (fun _ => True) (.slice B2 pd.length d2) pd) := Kd.R_below HPr.out hb
               have HBP4 : Hid (Below WP.heap.size WP w4) := HBP.out.trans (hb.mono HBP.out.size)
               have HPW : Hid (WP.heap.size ≤ w4.heap.size) := HBP4.out.size
               have HC64 : Hid (∀ W, Below w4.heap.size w4 W → Calls Try.prog 64 #[.slice Ag (r.log (p : Nat)).length cg] W fun e w' => ∃ v, e = .returned v ∧ Hid (Kd.R k45 45 w' W.heap.size (fun _ => True) v (r.log (p : Nat))) ∧ Hid (Below W.heap.size W w')) := fun W hW => copyRecords64 (r.log (p : Nat)) Ag cg W (Kd.C_below hC hW) hl1 HLP.out
               clear hl1 hC hb))
          refine start_ (n := 8) (S := (fun w' => w'.cell? ⟨nb, 2, none⟩ = some (.slice Al ml cl))) (ds := [5, 7]) #[false, false, false, false, false, false, false, false] (by kernel_rfl) rfl rfl (show w4.drew.cell? _ = _ from blk_at HG4.out 2 rfl) (fun hHeld => ?_)
          have HBW : Hid (Below w4.heap.size w4 w4.drew) := (Below.refl _ _).drew
          generalize w4.drew = W at hHeld HBW ⊢
          refine pure_ (i := 0) (N := some 67) (v := ?_) (a' := ?_) #[true, false, false, false, false, false, false, false] rfl rfl (by kernel_rfl) (fun _ _ _ h => h) (Or.inl ⟨by rfl, ?_⟩) ?_ ?_
          rotate_left
          · intro w'
            go_simp
            with_reducible rfl
          rotate_left
          · simp only [Act.put, List.setIfInBounds_toArray, List.set_cons_zero, List.set_cons_succ]
            rfl
          refine take_ (i := 1) (N := some 68) (v := ?_) (a' := ?_) #[true, true, false, false, false, false, false, false] rfl rfl (by kernel_rfl) (fun _ _ _ h => h) (Or.inl ⟨by rfl, ?_⟩) hHeld ?_ ?_
          rotate_left
          · intro w' s0
            go_simp
            with_reducible rfl
          rotate_left
          · simp only [Act.put, List.setIfInBounds_toArray, List.set_cons_zero, List.set_cons_succ]
            rfl
          refine pure_ (i := 2) (N := some 69) (v := ?_) (a' := ?_) #[true, true, true, false, false, false, false, false] rfl rfl (by kernel_rfl) (fun _ _ _ h => h) (Or.inl ⟨by rfl, ?_⟩) ?_ ?_
          rotate_left
          · intro w'
            go_simp
            with_reducible rfl
          rotate_left
          · simp only [Act.put, List.setIfInBounds_toArray, List.set_cons_zero, List.set_cons_succ]
            rfl
          refine one_ (i := 3) (N := some 70) #[true, true, true, true, false, false, false, false] rfl rfl (by kernel_rfl) (by decide) (fun K hK => ?_)
          refine goes_ Try.func64 (by kernel_rfl) rfl #[.slice Ag (r.log (p : Nat)).length cg] (by rfl) rfl rfl (by simp only [List.map_toArray, List.map_cons, List.map_nil]; rfl) ?_
          refine (HC64.out W HBW.out).mono ?_
          rintro e w5 ⟨u, rfl, hu, hb⟩
          refine ⟨_, rfl, ?_⟩
          obtain ⟨Bu, du, rfl⟩ := Kd.R_slice hu.out
          have HB5 : Hid (Below w4.heap.size w4 w5) := HBW.out.trans (hb.out.mono HBW.out.size)
          refine hK.out _ _ (pw_cell_below hb.out hHeld) (fun hHeld => ?_)
          clear hK K
          refine norm_ (a' := ?_) ?_ ?_
          rotate_left
          · show Act.put _ (some 70) _ = _
            simp only [Act.put, List.setIfInBounds_toArray, List.set_cons_zero, List.set_cons_succ]
            rfl
          refine one_ (i := 4) (N := some 71) #[true, true, true, true, true, false, false, false] rfl rfl (by kernel_rfl) (by decide) (fun K hK => ?_)
          refine value_ (w1 := ?_) (v := ?_) (by rfl) rfl ?_ ?_
          rotate_left 2
          · go_simp
            constructor
            · rfl
            · rfl
          refine hK.out _ _ (pw_cell_below ((Below.refl _ _).alloc (Nat.le_refl _) _) hHeld) (fun hHeld => ?_)
          clear hK K
          refine norm_ (a' := ?_) ?_ ?_
          rotate_left
          · show Act.put _ (some 71) _ = _
            simp only [Act.put, List.setIfInBounds_toArray, List.set_cons_zero, List.set_cons_succ]
            rfl
          refine last_ (i := 5) (N := some 72) #[true, true, true, true, true, true, false, false] rfl rfl (by kernel_rfl) (by decide) (fun K hK => ?_)
          refine Kd.R_append_step (Kd.slice 45 k45) (w0 := w5) WP.heap.size (by rfl) (.tmp 68) (.tmp 71) 53 35 (.slice none 0 0) 24 rfl Try.underlying53 info35 rfl (by decide) (by decide) (.slice Al ml cl) ((List.range p).map fun i => r.log (i : Nat)) (r.log (p : Nat)) _ (fun _ => True) (fun k => W.heap.size ≤ k) rfl rfl ?hp ?hok (fun _ _ => trivial) ?hO (Below.refl _ _) ?hS ?hl ?_
          case hp => exact ⟨_, rfl, R_newer hu.out (Nat.le_trans HPW.out HBW.out.size)⟩
          case hok => exact fun k hk => ⟨trivial, fun he => by have := Kd.R_lt HVL4.out k he.symm; have := HBW.out.size; omega⟩
          case hO => exact Kd.R_below HVL4.out HB5.out
          case hS => exact Nat.le_trans HPW.out HB5.out.size
          case hl => simp only [List.length_map, List.length_range]; omega
          intro v1 w6 hO6 hB6 hg6 hat6
          have HO6 := Lib.hid hO6
          have HG5 : Hid (w5.heap[nb]? = some (.cells #[.int .i64 st.f0, .slice B1 st.f1.length d1, .slice Al ml cl, .slice B2 pd.length d2] 55 (0, 0))) := (HB5.out.block _ (blk_lt HG4.out)).trans HG4.out
          have HV5 : Hid (Kd.R (Kd.slice 45 k45) 35 w5 WP.heap.size (fun _ => True) (.slice Al ml cl) ((List.range p).map fun i => r.log (i : Nat))) := Kd.R_below HVL4.out HB5.out
          have HG6 : Hid (w6.heap[nb]? = some (.cells #[.int .i64 st.f0, .slice B1 st.f1.length d1, .slice Al ml cl, .slice B2 pd.length d2] 55 (0, 0))) := (hg6.block nb (blk_lt HG5.out) (Kd.R_ne HV5.out HG5.out (by decide))).trans HG5.out
          have HS6 : Hid (Kd.R k104 104 w6 WP.heap.size (fun _ => True) (.slice B1 st.f1.length d1) st.f1) := Kd.R_over' (Kd.R_below HS4.out HB5.out) (Kd.R_typed HV5.out) e104' hg6
          have HP6 : Hid (Kd.R k45 45 w6 WP.heap.size (fun _ => True) (.slice B2 pd.length d2) pd) := Kd.R_over' (Kd.R_below HP4.out HB5.out) (Kd.R_typed HV5.out) e45' hg6
          have HB6 : Hid (Below WP.heap.size WP w6) := (HBP4.out.trans (HB5.out.mono HBP4.out.size)).trans hB6
          clear hO6 hB6 hg6 hat6
          obtain ⟨A6, m6, c6, rfl⟩ := R_sliced HO6.out
          refine hK.out _ _ ?_
          clear hK K
          refine norm_ (a' := ?_) ?_ ?_
          rotate_left
          · show Act.put _ (some 72) _ = _
            simp only [Act.put, List.setIfInBounds_toArray, List.set_cons_zero, List.set_cons_succ]
            rfl
          refine pure_ (i := 6) (N := some 73) (v := ?_) (a' := ?_) #[true, true, true, true, true, true, true, false] rfl rfl (by kernel_rfl) (fun _ _ _ h => h) (Or.inl ⟨by rfl, ?_⟩) ?_ ?_
          rotate_left
          · intro w'
            go_simp
            with_reducible rfl
          rotate_left
          · simp only [Act.put, List.setIfInBounds_toArray, List.set_cons_zero, List.set_cons_succ]
            rfl
          refine last_ (i := 7) (N := none) #[true, true, true, true, true, true, true, true] rfl rfl (by kernel_rfl) (by decide) (fun K hK => ?_)
          have hs : w6.cell? ⟨nb, 2, none⟩ = some (.slice Al ml cl) := blk_at HG6.out 2 rfl
          have hf : w6.frozen? ⟨nb, 2, none⟩ = false := blk_frozen HG6.out 2
          refine skip_ (w1 := ?_) (by rfl) rfl ?_ ?_
          rotate_left
          · go_simp
            rfl
          refine hK.out _ _ ?_
          clear hK K hs hf
          refine done_ (by kernel_rfl) ?_
          clear hHeld
          go_wp2
          go_roundw
          case rel =>
            refine ⟨p + 1, .slice A6 m6 c6, by omega, by go_num, Lib.hid (blk_put HG6.out 2 _ rfl), ?_, Lib.hid (Kd.R_set HS6.out HG6.out e104 2 _), Lib.hid (Kd.R_set HP6.out HG6.out e45 2 _), Lib.hid (HB6.out.setCell hnbE _)⟩
            have h1 := Kd.R_set HO6.out HG6.out e35 2 (.slice A6 m6 c6)
            rw [show (List.range (p + 1)).map (fun i => r.log (i : Nat)) = (List.range p).map (fun i => r.log (i : Nat)) ++ [r.log (p : Nat)] by rw [List.range_succ, List.map_append]; rfl]
            exact Lib.hid h1
          case measure => simp [intOf]; omega
        · obtain rfl : pn = p := by omega
          have hlogs : r.logs = ((List.range pn).map fun i => r.log (i : Nat)) := by unfold Rk.logs; rw [Hpn.out, Int.toNat_natCast]
          rw [← hlogs] at HVL
          have HZr : Hid (wr.heap[w.heap.size]? = some (.cells #[.int .i64 0, .slice none 0 0, .slice none 0 0, .slice none 0 0] 55 (0, 0))) := (HBP.out.block _ (blk_lt HZP.out)).trans HZP.out
          clear hlogs
          go_wp2
          refine start_ (n := 8) (S := (fun w' => w'.cell? ⟨g, 3, none⟩ = some (.int .i64 r.last) ∧ w'.cell? ⟨nb, 0, none⟩ = some (.int .i64 st.f0) ∧ w'.cell? ⟨nb, 1, none⟩ = some (.slice B1 st.f1.length d1) ∧ w'.cell? ⟨nb, 2, none⟩ = some (.slice Al ml cl) ∧ w'.cell? ⟨nb, 3, none⟩ = some (.slice B2 pd.length d2))) (ds := [6]) #[false, false, false, false, false, false, false, false] (by kernel_rfl) rfl rfl ⟨blk_at (show wr.drew.heap[g]? = _ from HXr.out.hb) 3 rfl, blk_at (show wr.drew.heap[nb]? = _ from HG.out) 0 rfl, blk_at (show wr.drew.heap[nb]? = _ from HG.out) 1 rfl, blk_at (show wr.drew.heap[nb]? = _ from HG.out) 2 rfl, blk_at (show wr.drew.heap[nb]? = _ from HG.out) 3 rfl⟩ (fun hHeld => ?_)
          have HZW : Hid (wr.drew.heap[w.heap.size]? = some (.cells #[.int .i64 0, .slice none 0 0, .slice none 0 0, .slice none 0 0] 55 (0, 0))) := HZr.out
          have HBW : Hid (Below WP.heap.size WP wr.drew) := HBP.out.drew
          have HVW : Hid (Kd.R (Kd.slice 45 k45) 35 wr.drew WP.heap.size (fun _ => True) (.slice Al ml cl) r.logs) := Kd.R_drew HVL.out
          have HSW : Hid (Kd.R k104 104 wr.drew WP.heap.size (fun _ => True) (.slice B1 st.f1.length d1) st.f1) := Kd.R_drew HSr.out
          have HPW : Hid (Kd.R k45 45 wr.drew WP.heap.size (fun _ => True) (.slice B2 pd.length d2) pd) := Kd.R_drew HPr.out
          generalize wr.drew = W at hHeld HZW HBW HVW HSW HPW ⊢
          refine pure_ (i := 0) (N := some 74) (v := ?_) (a' := ?_) #[true, false, false, false, false, false, false, false] rfl rfl (by kernel_rfl) (fun _ _ _ h => h) (Or.inl ⟨by rfl, ?_⟩) ?_ ?_
          rotate_left
          · intro w'
            go_simp
            with_reducible rfl
          rotate_left
          · simp only [Act.put, List.setIfInBounds_toArray, List.set_cons_zero, List.set_cons_succ]
            rfl
          refine pure_ (i := 1) (N := some 75) (v := ?_) (a' := ?_) #[true, true, false, false, false, false, false, false] rfl rfl (by kernel_rfl) (fun _ _ _ h => h) (Or.inl ⟨by rfl, ?_⟩) ?_ ?_
          rotate_left
          · intro w'
            go_simp
            with_reducible rfl
          rotate_left
          · simp only [Act.put, List.setIfInBounds_toArray, List.set_cons_zero, List.set_cons_succ]
            rfl
          refine pure_ (i := 2) (N := some 76) (v := ?_) (a' := ?_) #[true, true, true, false, false, false, false, false] rfl rfl (by kernel_rfl) (fun _ _ _ h => h) (Or.inl ⟨by rfl, ?_⟩) ?_ ?_
          rotate_left
          · intro w'
            go_simp
            with_reducible rfl
          rotate_left
          · simp only [Act.put, List.setIfInBounds_toArray, List.set_cons_zero, List.set_cons_succ]
            rfl
          refine take_ (i := 3) (N := some 77) (v := ?_) (a' := ?_) #[true, true, true, true, false, false, false, false] rfl rfl (by kernel_rfl) (fun _ _ _ h => h) (Or.inl ⟨by rfl, ?_⟩) hHeld ?_ ?_
          rotate_left
          · rintro w' ⟨s0, s1, s2, s3, s4⟩
            go_simp
            with_reducible rfl
          rotate_left
          · simp only [Act.put, List.setIfInBounds_toArray, List.set_cons_zero, List.set_cons_succ]
            rfl
          refine take_ (i := 4) (N := some 78) (v := ?_) (a' := ?_) #[true, true, true, true, true, false, false, false] rfl rfl (by kernel_rfl) (fun _ _ _ h => h) (Or.inl ⟨by rfl, ?_⟩) hHeld ?_ ?_
          rotate_left
          · rintro w' ⟨s0, s1, s2, s3, s4⟩
            go_simp
            with_reducible rfl
          rotate_left
          · simp only [Act.put, List.setIfInBounds_toArray, List.set_cons_zero, List.set_cons_succ]
            rfl
          refine pure_ (i := 5) (N := some 2) (v := ?_) (a' := ?_) #[true, true, true, true, true, true, false, false] rfl rfl (by kernel_rfl) (fun _ _ _ h => h) (Or.inl ⟨by rfl, ?_⟩) ?_ ?_
          rotate_left
          · intro w'
            go_simp
            with_reducible rfl
          rotate_left
          · simp only [Act.put, List.setIfInBounds_toArray, List.set_cons_zero, List.set_cons_succ]
            rfl
          refine last_ (i := 6) (N := none) #[true, true, true, true, true, true, true, false] rfl rfl (by kernel_rfl) (by decide) (fun K hK => ?_)
          skip
          have y0 : W.cell? ⟨w.heap.size, 0, none⟩ = some (.int .i64 0) := blk_at HZW.out 0 rfl
          have z0 : W.frozen? ⟨w.heap.size, 0, none⟩ = false := blk_frozen HZW.out 0
          have y1 : W.cell? ⟨w.heap.size, 1, none⟩ = some (.slice none 0 0) := blk_at HZW.out 1 rfl
          have z1 : W.frozen? ⟨w.heap.size, 1, none⟩ = false := blk_frozen HZW.out 1
          have y2 : W.cell? ⟨w.heap.size, 2, none⟩ = some (.slice none 0 0) := blk_at HZW.out 2 rfl
          have z2 : W.frozen? ⟨w.heap.size, 2, none⟩ = false := blk_frozen HZW.out 2
          have y3 : W.cell? ⟨w.heap.size, 3, none⟩ = some (.slice none 0 0) := blk_at HZW.out 3 rfl
          have z3 : W.frozen? ⟨w.heap.size, 3, none⟩ = false := blk_frozen HZW.out 3
          refine skip_ (w1 := ((((W.setCell ⟨w.heap.size, 0, none⟩ (.int .i64 st.f0)).setCell ⟨w.heap.size, 1, none⟩ (.slice B1 st.f1.length d1)).setCell ⟨w.heap.size, 2, none⟩ (.slice Al ml cl)).setCell ⟨w.heap.size, 3, none⟩ (.slice B2 pd.length d2))) (by rfl) rfl (by go_simp) ?_
          refine hK.out _ _ ?_
          clear hK K y0 z0 y1 z1 y2 z2 y3 z3
          refine pure_ (i := 7) (N := some 4) (v := ?_) (a' := ?_) #[true, true, true, true, true, true, true, true] rfl rfl (by kernel_rfl) (fun _ _ _ h => h) (Or.inl ⟨by rfl, ?_⟩) ?_ ?_
          rotate_left
          · intro w'
            go_simp
            with_reducible rfl
          rotate_left
          · simp only [Act.put, List.setIfInBounds_toArray, List.set_cons_zero, List.set_cons_succ]
            rfl
          refine done_ (by kernel_rfl) ?_
          clear hHeld
          have HF := Lib.hid (HX.out.shown (HXP.out.below HBW.out) (HUP.out.trans (Upd.of_below HBW.out (fun _ _ => rfl))) (.int .i64 st.f0) (.slice B1 st.f1.length d1) (.slice Al ml cl) (.slice B2 pd.length d2))
          have HZF : Hid (((((W.setCell ⟨w.heap.size, 0, none⟩ (.int .i64 st.f0)).setCell ⟨w.heap.size, 1, none⟩ (.slice B1 st.f1.length d1)).setCell ⟨w.heap.size, 2, none⟩ (.slice Al ml cl)).setCell ⟨w.heap.size, 3, none⟩ (.slice B2 pd.length d2)).heap[w.heap.size]? = some (.cells #[.int .i64 st.f0, .slice B1 st.f1.length d1, .slice Al ml cl, .slice B2 pd.length d2] 55 (0, 0))) := (blk_put (blk_put (blk_put (blk_put HZW.out 0 (.int .i64 st.f0) rfl) 1 (.slice B1 st.f1.length d1) rfl) 2 (.slice Al ml cl) rfl) 3 (.slice B2 pd.length d2) rfl)
          have HVF := Lib.hid (Kd.R_set (Kd.R_set (Kd.R_set (Kd.R_set HVW.out HZW.out e35 0 (.int .i64 st.f0)) (blk_put HZW.out 0 (.int .i64 st.f0) rfl) e35 1 (.slice B1 st.f1.length d1)) (blk_put (blk_put HZW.out 0 (.int .i64 st.f0) rfl) 1 (.slice B1 st.f1.length d1) rfl) e35 2 (.slice Al ml cl)) (blk_put (blk_put (blk_put HZW.out 0 (.int .i64 st.f0) rfl) 1 (.slice B1 st.f1.length d1) rfl) 2 (.slice Al ml cl) rfl) e35 3 (.slice B2 pd.length d2))
          have HSF := Lib.hid (Kd.R_set (Kd.R_set (Kd.R_set (Kd.R_set HSW.out HZW.out e104 0 (.int .i64 st.f0)) (blk_put HZW.out 0 (.int .i64 st.f0) rfl) e104 1 (.slice B1 st.f1.length d1)) (blk_put (blk_put HZW.out 0 (.int .i64 st.f0) rfl) 1 (.slice B1 st.f1.length d1) rfl) e104 2 (.slice Al ml cl)) (blk_put (blk_put (blk_put HZW.out 0 (.int .i64 st.f0) rfl) 1 (.slice B1 st.f1.length d1) rfl) 2 (.slice Al ml cl) rfl) e104 3 (.slice B2 pd.length d2))
          have HPF := Lib.hid (Kd.R_set (Kd.R_set (Kd.R_set (Kd.R_set HPW.out HZW.out e45 0 (.int .i64 st.f0)) (blk_put HZW.out 0 (.int .i64 st.f0) rfl) e45 1 (.slice B1 st.f1.length d1)) (blk_put (blk_put HZW.out 0 (.int .i64 st.f0) rfl) 1 (.slice B1 st.f1.length d1) rfl) e45 2 (.slice Al ml cl)) (blk_put (blk_put (blk_put HZW.out 0 (.int .i64 st.f0) rfl) 1 (.slice B1 st.f1.length d1) rfl) 2 (.slice Al ml cl) rfl) e45 3 (.slice B2 pd.length d2))
          clear HZW HBW HVW HSW HPW
          generalize ((((W.setCell ⟨w.heap.size, 0, none⟩ (.int .i64 st.f0)).setCell ⟨w.heap.size, 1, none⟩ (.slice B1 st.f1.length d1)).setCell ⟨w.heap.size, 2, none⟩ (.slice Al ml cl)).setCell ⟨w.heap.size, 3, none⟩ (.slice B2 pd.length d2)) = WF at HF HZF HVF HSF HPF ⊢
          go_wp2
          refine bodyPost_ret (results_list (rs := [.tmp 2, .cell 3 55, .tmp 4]) (vs := [.int .i64 r.last, .agg #[.int .i64 st.f0, .slice B1 st.f1.length d1, .slice Al ml cl, .slice B2 pd.length d2], .bool true]) rfl (by simp) (.tmp (.cell w.heap.size 55 #[.int .i64 st.f0, .slice B1 st.f1.length d1, .slice Al ml cl, .slice B2 pd.length d2] (0, 0) _ rfl HZF.out Try.underlying55 rfl (by kernel_rfl) (.tmp .nil)))) rfl ?_
          unfold RPartAns
          rw [if_pos HRD.out, ← HST.out, ← HPD.out]
          obtain ⟨hm, _, hCV⟩ := Kd.R_reads' HVF.out
          subst hm
          exact ⟨_, _, _, _, _, _, rfl, HF.out, (Kd.R_reads' HSF.out).2.2, hCV, (Kd.R_reads' HPF.out).2.2⟩
theorem part51 (h : RkAt w base own g r A c) (hbase : base ≤ w.heap.size) (hs : RSz r) : Calls Try.prog 51 #[.pointer (some ⟨g, 0, none⟩)] w fun e w' => RPartAns base own g r w e w' := by
  have no : r.ready = false → (Calls Try.prog 51 #[.pointer (some ⟨g, 0, none⟩)] w fun e w' => e = .returned (.tuple #[.int .i64 0, .agg #[.int .i64 0, .slice none 0 0, .slice none 0 0, .slice none 0 0], .bool false]) ∧ RkPost base own g r w w') → Calls Try.prog 51 #[.pointer (some ⟨g, 0, none⟩)] w fun e w' => RPartAns base own g r w e w' := fun hr h => by
    refine h.mono ?_
    intro e w' he
    unfold RPartAns
    rw [if_neg (by rw [hr]; simp)]
    exact he
  by_cases hc : r.cop < 0
  · exact no (by unfold Rk.ready; rw [decide_eq_false (by omega : ¬ 0 ≤ r.cop)]; rfl) (part51_copied h (decide_eq_true hc))
  · rcases hg : r.handed with _ | _
    · exact part51_rest h hbase hs (decide_eq_false hc) hg
    · exact no (by unfold Rk.ready; rw [hg]; simp) (part51_given h (decide_eq_false hc) hg)
end
end Go.Proofs.Ytomfknblehkocaa.C
