/- The statement's view in memory: whole. -/
import Derived.Test.YtomfknblehkocaaVP
import Derived.Test.YtomfknblehkocaaSA
import Derived.Test.YtomfknblehkocaaCS
import Derived.Test.YtomfknblehkocaaCR
namespace Go.Proofs.Ytomfknblehkocaa.C
open Go.RowKit Go.Proofs.YtomfknblehkocaaW.PrintWords Go.Proofs.YtomfknblehkocaaW.PrintLast
set_option linter.unusedVariables false
set_option linter.unusedSimpArgs false
/-- The view at block g. own: 1 its own block, 4 the state's, 5 the pending output's, 6 + i the log's of port i; 0: none of the view's. -/
structure VwAt (w : World) (base : Nat) (own : Nat → Nat) (g : Nat) (v : Vw) (va vp : Value) (lv : Nat → Value) : Prop where
  hb : w.heap[g]? = some (.cells #[.int .i64 v.id, .bool v.copied, .int .i64 v.st.f0, va, vp, .bool (v.shut 0), .bool (v.shut 1), .bool (v.shut 2), .bool (v.shut 3), lv 0, lv 1, lv 2, lv 3, .bool v.handed] 39 (0, 0))
  ra : Kd.R k104 104 w base (fun k => own k = 4) va v.st.f1
  rp : Kd.R k45 45 w base (fun k => own k = 5) vp v.pend
  rl : ∀ i, i < 4 → Kd.R k45 45 w base (fun k => own k = 6 + i) (lv i) (v.logs.getD i [])
  og : own g = 1
  lo : ∀ k, own k ≠ 0 → base ≤ k ∧ k < w.heap.size
  cl : v.closed.length = 4
  ll : v.logs.length = 4
def VwI (w : World) (base : Nat) (own : Nat → Nat) (g : Nat) (v : Vw) : Prop := ∃ va vp lv, VwAt w base own g v va vp lv
def VwPost (base : Nat) (own : Nat → Nat) (g : Nat) (v' : Vw) (w w' : World) : Prop := ∃ own', VwI w' base own' g v' ∧ Upd own w own' w'
section
variable {w W : World} {base : Nat} {own : Nat → Nat} {g : Nat} {v : Vw} {va vp : Value} {lv : Nat → Value}
theorem VwAt.kept (h : VwAt w base own g v va vp lv) {o2 o2' : Nat → Nat} (u : Upd o2 w o2' W) (hd : ∀ k, own k ≠ 0 → o2 k = 0) : VwAt W base own g v va vp lv := by
  have hm : ∀ k, own k ≠ 0 → W.heap[k]? = w.heap[k]? := fun k hk => u.block k (h.lo k hk).2 (hd k hk)
  have hR : ∀ {α : Type} {d : Kd α} {e t : Nat} {v : Value} {xs : List α}, 1 ≤ t → d.R e w base (fun k => own k = t) v xs → d.R e W base (fun k => own k = t) v xs := fun ht hR => Kd.R_move hR (fun k hk => hm k (by omega))
  exact ⟨(hm g (by have := h.og; omega)).trans h.hb, hR (by omega) h.ra, hR (by omega) h.rp, fun i hi => hR (by omega) (h.rl i hi), h.og, fun k hk => ⟨(h.lo k hk).1, Nat.lt_of_lt_of_le (h.lo k hk).2 u.size⟩, h.cl, h.ll⟩
theorem VwAt.below (h : VwAt w base own g v va vp lv) (hb : Below w.heap.size w W) : VwAt W base own g v va vp lv :=
  h.kept (o2 := fun _ => 0) (o2' := fun _ => 0) (Upd.of_below hb (fun _ _ => rfl)) (fun _ _ => rfl)
theorem VwAt.glt (h : VwAt w base own g v va vp lv) : g < w.heap.size := (h.lo g (by have := h.og; omega)).2
theorem VwAt.free (h : VwAt w base own g v va vp lv) {k : Nat} (hk : w.heap.size ≤ k) : own k = 0 := by
  by_cases h0 : own k = 0
  · exact h0
  · have := (h.lo k h0).2; omega
theorem VwAt.shutc (h : VwAt w base own g v va vp lv) (p : Nat) (hp : p < 4) : w.cell? ⟨g, 5 + p, none⟩ = some (.bool (v.shut p)) := by
  refine blk_at h.hb (5 + p) ?_
  match p, hp with
  | 0, _ => rfl
  | 1, _ => rfl
  | 2, _ => rfl
  | 3, _ => rfl
theorem VwAt.logc (h : VwAt w base own g v va vp lv) (p : Nat) (hp : p < 4) : w.cell? ⟨g, 9 + p, none⟩ = some (lv p) := by
  refine blk_at h.hb (9 + p) ?_
  match p, hp with
  | 0, _ => rfl
  | 1, _ => rfl
  | 2, _ => rfl
  | 3, _ => rfl
set_option maxRecDepth 100000 in
set_option maxHeartbeats 4000000 in
theorem whole23 (h : VwAt w base own g v va vp lv) (n : Nat) (hn : n ≤ 4) : Calls Try.prog 23 #[.pointer (some ⟨g, 0, none⟩), .int .i64 n] w fun e w' => e = .returned (.bool (v.whole n)) ∧ Hid (Below w.heap.size w w') := by
  have HV := Lib.hid h
  clear h
  go_enter Try.func23, Try.ntmps23
  go_wp2
  go_loopw [5] (fun v5 wr => ∃ p : Nat, p ≤ n ∧ v5 = .int .i64 p ∧ Hid (Below w.heap.size w wr) ∧ Hid (∀ i, i < p → v.shut i = true)) (fun v5 _ => n - (intOf v5).toNat)
  case atStart => exact ⟨0, Nat.zero_le _, rfl, Lib.hid (Below.refl _ _), Lib.hid (fun i hi => absurd hi (Nat.not_lt_zero _))⟩
  case round =>
    obtain ⟨p, hk, rfl, HB, HA⟩ := hrel
    have HVr : Hid (VwAt wr base own g v va vp lv) := HV.out.below HB.out
    by_cases hlt : p < n
    · have i1 : (0 : Int) ≤ (p : Int) := by omega
      have i2 : (p : Int) < 4 := by omega
      have i3 : (p : Int) < (n : Int) := by omega
      have cp := HVr.out.shutc p (by omega)
      rcases hs : v.shut p with _ | _
      · rw [hs] at cp
        have HE : Hid (v.whole n = false) := by
          unfold Vw.whole
          rw [List.all_eq_false.2 ⟨p, List.mem_range.2 hlt, by rw [hs]; simp⟩]
          exact Lib.hid rfl
        clear hs
        go_wp2
        go_ret
        exact ⟨congrArg (fun z => Ending.returned (.bool z)) HE.out.symm, HB⟩
      · rw [hs] at cp
        have HA' : Hid (∀ i, i < p + 1 → v.shut i = true) := fun i hi => by
          by_cases e : i = p
          · subst e; exact hs
          · exact HA.out i (by omega)
        clear hs
        go_wp2
        go_roundw
        case rel => exact ⟨p + 1, by omega, by go_num, HB, HA'⟩
        case measure => simp [intOf]; omega
    · obtain rfl : n = p := by omega
      have HE : Hid (v.whole n = v.copied) := by
        unfold Vw.whole
        rw [List.all_eq_true.2 (fun i hi => HA.out i (List.mem_range.1 hi))]
        exact Lib.hid rfl
      have c1 : wr.cell? ⟨g, 1, none⟩ = some (.bool v.copied) := blk_at HVr.out.hb 1 rfl
      go_wp2
      go_ret
      exact ⟨congrArg (fun z => Ending.returned (.bool z)) HE.out.symm, HB⟩
end
section
variable {w W : World} {base : Nat} {own : Nat → Nat} {g : Nat} {v : Vw} {va vp : Value} {lv : Nat → Value}
set_option maxRecDepth 100000 in
set_option maxHeartbeats 4000000 in
theorem copies30_a (h : VwAt w base own g v va vp lv) (o : S47) (A8 : Option Addr) (c8 : Nat) (A9 : Option Addr) (c9 : Nat) (A10 : Option Addr) (c10 : Nat) (A11 : Option Addr) (c11 : Nat) (A13 : Option Addr) (c13 : Nat) (p n : Nat) (hp4 : p < 4) (mode back : Int) (d1 : decide (o.f3 < v.id) = true) : Calls Try.prog 30 #[.pointer (some ⟨g, 0, none⟩), .agg #[.int .i64 o.f0, .int .i64 o.f1, .int .i64 p, .int .i64 o.f3, .string o.f4.f0, .int .i64 o.f4.f1.f0, .int .i64 o.f4.f1.f1, .string o.f4.f1.f2, .slice A8 o.f4.f1.f3.length c8, .slice A9 o.f4.f2.length c9, .slice A10 o.f5.length c10, .slice A11 o.f6.length c11, .int .i64 o.f7.f0, .slice A13 o.f7.f1.length c13], .int .i64 mode, .int .i64 n, .int .i64 back] w fun e w' => e = .returned (.bool false) ∧ Hid (Below w.heap.size w w') := by
  have HW := Lib.hid h
  have HB0 : Hid (Below w.heap.size w (w.alloc (.cells #[.int .i64 o.f0, .int .i64 o.f1, .int .i64 p, .int .i64 o.f3, .string o.f4.f0, .int .i64 o.f4.f1.f0, .int .i64 o.f4.f1.f1, .string o.f4.f1.f2, .slice A8 o.f4.f1.f3.length c8, .slice A9 o.f4.f2.length c9, .slice A10 o.f5.length c10, .slice A11 o.f6.length c11, .int .i64 o.f7.f0, .slice A13 o.f7.f1.length c13] 47))) := (Below.refl _ _).alloc (Nat.le_refl _) _
  have HX0 : Hid (((w.alloc (.cells #[.int .i64 o.f0, .int .i64 o.f1, .int .i64 p, .int .i64 o.f3, .string o.f4.f0, .int .i64 o.f4.f1.f0, .int .i64 o.f4.f1.f1, .string o.f4.f1.f2, .slice A8 o.f4.f1.f3.length c8, .slice A9 o.f4.f2.length c9, .slice A10 o.f5.length c10, .slice A11 o.f6.length c11, .int .i64 o.f7.f0, .slice A13 o.f7.f1.length c13] 47))).heap[w.heap.size]? = some (.cells #[.int .i64 o.f0, .int .i64 o.f1, .int .i64 p, .int .i64 o.f3, .string o.f4.f0, .int .i64 o.f4.f1.f0, .int .i64 o.f4.f1.f1, .string o.f4.f1.f2, .slice A8 o.f4.f1.f3.length c8, .slice A9 o.f4.f2.length c9, .slice A10 o.f5.length c10, .slice A11 o.f6.length c11, .int .i64 o.f7.f0, .slice A13 o.f7.f1.length c13] 47 (0, 0))) := blk_new w _
  have hgl : g < w.heap.size := h.glt
  have c0 : w.cell? ⟨g, 0, none⟩ = some (.int .i64 v.id) := blk_at h.hb 0 rfl
  have c1 : w.cell? ⟨g, 1, none⟩ = some (.bool v.copied) := blk_at h.hb 1 rfl
  have cp := h.shutc p hp4
  have i1 : (0 : Int) ≤ (p : Int) := by omega
  have i2 : (p : Int) < 4 := by omega
  clear h
  go_enter Try.func30, Try.ntmps30
  go_wp2
  go_quiet (fail)
  go_wp2
  go_ret
  exact ⟨rfl, Lib.hid (pw_below_drewN HB0.out _)⟩
set_option maxRecDepth 100000 in
set_option maxHeartbeats 4000000 in
theorem copies30_c (h : VwAt w base own g v va vp lv) (o : S47) (A8 : Option Addr) (c8 : Nat) (A9 : Option Addr) (c9 : Nat) (A10 : Option Addr) (c10 : Nat) (A11 : Option Addr) (c11 : Nat) (A13 : Option Addr) (c13 : Nat) (p n : Nat) (hp4 : p < 4) (mode back : Int) (d1 : decide (o.f3 < v.id) = false) (d2 : (o.f3 == v.id) = true) (d3 : v.copied = true) : Calls Try.prog 30 #[.pointer (some ⟨g, 0, none⟩), .agg #[.int .i64 o.f0, .int .i64 o.f1, .int .i64 p, .int .i64 o.f3, .string o.f4.f0, .int .i64 o.f4.f1.f0, .int .i64 o.f4.f1.f1, .string o.f4.f1.f2, .slice A8 o.f4.f1.f3.length c8, .slice A9 o.f4.f2.length c9, .slice A10 o.f5.length c10, .slice A11 o.f6.length c11, .int .i64 o.f7.f0, .slice A13 o.f7.f1.length c13], .int .i64 mode, .int .i64 n, .int .i64 back] w fun e w' => e = .returned (.bool false) ∧ Hid (Below w.heap.size w w') := by
  have HW := Lib.hid h
  have HB0 : Hid (Below w.heap.size w (w.alloc (.cells #[.int .i64 o.f0, .int .i64 o.f1, .int .i64 p, .int .i64 o.f3, .string o.f4.f0, .int .i64 o.f4.f1.f0, .int .i64 o.f4.f1.f1, .string o.f4.f1.f2, .slice A8 o.f4.f1.f3.length c8, .slice A9 o.f4.f2.length c9, .slice A10 o.f5.length c10, .slice A11 o.f6.length c11, .int .i64 o.f7.f0, .slice A13 o.f7.f1.length c13] 47))) := (Below.refl _ _).alloc (Nat.le_refl _) _
  have HX0 : Hid (((w.alloc (.cells #[.int .i64 o.f0, .int .i64 o.f1, .int .i64 p, .int .i64 o.f3, .string o.f4.f0, .int .i64 o.f4.f1.f0, .int .i64 o.f4.f1.f1, .string o.f4.f1.f2, .slice A8 o.f4.f1.f3.length c8, .slice A9 o.f4.f2.length c9, .slice A10 o.f5.length c10, .slice A11 o.f6.length c11, .int .i64 o.f7.f0, .slice A13 o.f7.f1.length c13] 47))).heap[w.heap.size]? = some (.cells #[.int .i64 o.f0, .int .i64 o.f1, .int .i64 p, .int .i64 o.f3, .string o.f4.f0, .int .i64 o.f4.f1.f0, .int .i64 o.f4.f1.f1, .string o.f4.f1.f2, .slice A8 o.f4.f1.f3.length c8, .slice A9 o.f4.f2.length c9, .slice A10 o.f5.length c10, .slice A11 o.f6.length c11, .int .i64 o.f7.f0, .slice A13 o.f7.f1.length c13] 47 (0, 0))) := blk_new w _
  have hgl : g < w.heap.size := h.glt
  have c0 : w.cell? ⟨g, 0, none⟩ = some (.int .i64 v.id) := blk_at h.hb 0 rfl
  have c1 : w.cell? ⟨g, 1, none⟩ = some (.bool v.copied) := blk_at h.hb 1 rfl
  have cp := h.shutc p hp4
  have i1 : (0 : Int) ≤ (p : Int) := by omega
  have i2 : (p : Int) < 4 := by omega
  rw [d3] at c1
  clear d3
  clear h
  go_enter Try.func30, Try.ntmps30
  go_wp2
  go_quiet (fail)
  go_wp2
  go_ret
  exact ⟨rfl, Lib.hid (pw_below_drewN HB0.out _)⟩
set_option maxRecDepth 100000 in
set_option maxHeartbeats 4000000 in
theorem copies30_d (h : VwAt w base own g v va vp lv) (o : S47) (A8 : Option Addr) (c8 : Nat) (A9 : Option Addr) (c9 : Nat) (A10 : Option Addr) (c10 : Nat) (A11 : Option Addr) (c11 : Nat) (A13 : Option Addr) (c13 : Nat) (p n : Nat) (hp4 : p < 4) (mode back : Int) (d1 : decide (o.f3 < v.id) = false) (d2 : (o.f3 == v.id) = true) (d3 : v.copied = false) (d4 : v.shut p = true) : Calls Try.prog 30 #[.pointer (some ⟨g, 0, none⟩), .agg #[.int .i64 o.f0, .int .i64 o.f1, .int .i64 p, .int .i64 o.f3, .string o.f4.f0, .int .i64 o.f4.f1.f0, .int .i64 o.f4.f1.f1, .string o.f4.f1.f2, .slice A8 o.f4.f1.f3.length c8, .slice A9 o.f4.f2.length c9, .slice A10 o.f5.length c10, .slice A11 o.f6.length c11, .int .i64 o.f7.f0, .slice A13 o.f7.f1.length c13], .int .i64 mode, .int .i64 n, .int .i64 back] w fun e w' => e = .returned (.bool false) ∧ Hid (Below w.heap.size w w') := by
  have HW := Lib.hid h
  have HB0 : Hid (Below w.heap.size w (w.alloc (.cells #[.int .i64 o.f0, .int .i64 o.f1, .int .i64 p, .int .i64 o.f3, .string o.f4.f0, .int .i64 o.f4.f1.f0, .int .i64 o.f4.f1.f1, .string o.f4.f1.f2, .slice A8 o.f4.f1.f3.length c8, .slice A9 o.f4.f2.length c9, .slice A10 o.f5.length c10, .slice A11 o.f6.length c11, .int .i64 o.f7.f0, .slice A13 o.f7.f1.length c13] 47))) := (Below.refl _ _).alloc (Nat.le_refl _) _
  have HX0 : Hid (((w.alloc (.cells #[.int .i64 o.f0, .int .i64 o.f1, .int .i64 p, .int .i64 o.f3, .string o.f4.f0, .int .i64 o.f4.f1.f0, .int .i64 o.f4.f1.f1, .string o.f4.f1.f2, .slice A8 o.f4.f1.f3.length c8, .slice A9 o.f4.f2.length c9, .slice A10 o.f5.length c10, .slice A11 o.f6.length c11, .int .i64 o.f7.f0, .slice A13 o.f7.f1.length c13] 47))).heap[w.heap.size]? = some (.cells #[.int .i64 o.f0, .int .i64 o.f1, .int .i64 p, .int .i64 o.f3, .string o.f4.f0, .int .i64 o.f4.f1.f0, .int .i64 o.f4.f1.f1, .string o.f4.f1.f2, .slice A8 o.f4.f1.f3.length c8, .slice A9 o.f4.f2.length c9, .slice A10 o.f5.length c10, .slice A11 o.f6.length c11, .int .i64 o.f7.f0, .slice A13 o.f7.f1.length c13] 47 (0, 0))) := blk_new w _
  have hgl : g < w.heap.size := h.glt
  have c0 : w.cell? ⟨g, 0, none⟩ = some (.int .i64 v.id) := blk_at h.hb 0 rfl
  have c1 : w.cell? ⟨g, 1, none⟩ = some (.bool v.copied) := blk_at h.hb 1 rfl
  have cp := h.shutc p hp4
  have i1 : (0 : Int) ≤ (p : Int) := by omega
  have i2 : (p : Int) < 4 := by omega
  rw [d3] at c1
  rw [d4] at cp
  clear d3 d4
  clear h
  go_enter Try.func30, Try.ntmps30
  go_wp2
  go_quiet (fail)
  go_wp2
  go_ret
  exact ⟨rfl, Lib.hid (pw_below_drewN HB0.out _)⟩
set_option maxRecDepth 100000 in
set_option maxHeartbeats 4000000 in
theorem copies30_bm (h : VwAt w base own g v va vp lv) (o : S47) (A8 : Option Addr) (c8 : Nat) (A9 : Option Addr) (c9 : Nat) (A10 : Option Addr) (c10 : Nat) (A11 : Option Addr) (c11 : Nat) (A13 : Option Addr) (c13 : Nat) (p n : Nat) (hp4 : p < 4) (mode back : Int) (d1 : decide (o.f3 < v.id) = false) (d2 : (o.f3 == v.id) = false) (d5 : (mode != 1) = true) : Calls Try.prog 30 #[.pointer (some ⟨g, 0, none⟩), .agg #[.int .i64 o.f0, .int .i64 o.f1, .int .i64 p, .int .i64 o.f3, .string o.f4.f0, .int .i64 o.f4.f1.f0, .int .i64 o.f4.f1.f1, .string o.f4.f1.f2, .slice A8 o.f4.f1.f3.length c8, .slice A9 o.f4.f2.length c9, .slice A10 o.f5.length c10, .slice A11 o.f6.length c11, .int .i64 o.f7.f0, .slice A13 o.f7.f1.length c13], .int .i64 mode, .int .i64 n, .int .i64 back] w fun e w' => e = .returned (.bool true) ∧ Hid (Below w.heap.size w w') := by
  have HW := Lib.hid h
  have HB0 : Hid (Below w.heap.size w (w.alloc (.cells #[.int .i64 o.f0, .int .i64 o.f1, .int .i64 p, .int .i64 o.f3, .string o.f4.f0, .int .i64 o.f4.f1.f0, .int .i64 o.f4.f1.f1, .string o.f4.f1.f2, .slice A8 o.f4.f1.f3.length c8, .slice A9 o.f4.f2.length c9, .slice A10 o.f5.length c10, .slice A11 o.f6.length c11, .int .i64 o.f7.f0, .slice A13 o.f7.f1.length c13] 47))) := (Below.refl _ _).alloc (Nat.le_refl _) _
  have HX0 : Hid (((w.alloc (.cells #[.int .i64 o.f0, .int .i64 o.f1, .int .i64 p, .int .i64 o.f3, .string o.f4.f0, .int .i64 o.f4.f1.f0, .int .i64 o.f4.f1.f1, .string o.f4.f1.f2, .slice A8 o.f4.f1.f3.length c8, .slice A9 o.f4.f2.length c9, .slice A10 o.f5.length c10, .slice A11 o.f6.length c11, .int .i64 o.f7.f0, .slice A13 o.f7.f1.length c13] 47))).heap[w.heap.size]? = some (.cells #[.int .i64 o.f0, .int .i64 o.f1, .int .i64 p, .int .i64 o.f3, .string o.f4.f0, .int .i64 o.f4.f1.f0, .int .i64 o.f4.f1.f1, .string o.f4.f1.f2, .slice A8 o.f4.f1.f3.length c8, .slice A9 o.f4.f2.length c9, .slice A10 o.f5.length c10, .slice A11 o.f6.length c11, .int .i64 o.f7.f0, .slice A13 o.f7.f1.length c13] 47 (0, 0))) := blk_new w _
  have hgl : g < w.heap.size := h.glt
  have c0 : w.cell? ⟨g, 0, none⟩ = some (.int .i64 v.id) := blk_at h.hb 0 rfl
  have c1 : w.cell? ⟨g, 1, none⟩ = some (.bool v.copied) := blk_at h.hb 1 rfl
  have cp := h.shutc p hp4
  have i1 : (0 : Int) ≤ (p : Int) := by omega
  have i2 : (p : Int) < 4 := by omega
  clear h
  go_enter Try.func30, Try.ntmps30
  go_wp2
  go_quiet (fail)
  go_wp2
  go_ret
  exact ⟨rfl, Lib.hid (pw_below_drewN HB0.out _)⟩
set_option maxRecDepth 100000 in
set_option maxHeartbeats 4000000 in
theorem copies30_ba (h : VwAt w base own g v va vp lv) (o : S47) (A8 : Option Addr) (c8 : Nat) (A9 : Option Addr) (c9 : Nat) (A10 : Option Addr) (c10 : Nat) (A11 : Option Addr) (c11 : Nat) (A13 : Option Addr) (c13 : Nat) (p n : Nat) (hp4 : p < 4) (hn4 : n ≤ 4) (mode back : Int) (d1 : decide (o.f3 < v.id) = false) (d2 : (o.f3 == v.id) = false) (d5 : (mode != 1) = false) (cond : Nat → Bool) (hcond : ∀ i, cond i = ((i : Int) == back || ((i : Int) == (p : Int) || (false && v.shut i)))) :
    Calls Try.prog 30 #[.pointer (some ⟨g, 0, none⟩), .agg #[.int .i64 o.f0, .int .i64 o.f1, .int .i64 p, .int .i64 o.f3, .string o.f4.f0, .int .i64 o.f4.f1.f0, .int .i64 o.f4.f1.f1, .string o.f4.f1.f2, .slice A8 o.f4.f1.f3.length c8, .slice A9 o.f4.f2.length c9, .slice A10 o.f5.length c10, .slice A11 o.f6.length c11, .int .i64 o.f7.f0, .slice A13 o.f7.f1.length c13], .int .i64 mode, .int .i64 n, .int .i64 back] w fun e w' => e = .returned (.bool ((List.range n).all cond)) ∧ Hid (Below w.heap.size w w') := by
  have HCO := Lib.hid hcond
  clear hcond
  have HW := Lib.hid h
  have HB0 : Hid (Below w.heap.size w (w.alloc (.cells #[.int .i64 o.f0, .int .i64 o.f1, .int .i64 p, .int .i64 o.f3, .string o.f4.f0, .int .i64 o.f4.f1.f0, .int .i64 o.f4.f1.f1, .string o.f4.f1.f2, .slice A8 o.f4.f1.f3.length c8, .slice A9 o.f4.f2.length c9, .slice A10 o.f5.length c10, .slice A11 o.f6.length c11, .int .i64 o.f7.f0, .slice A13 o.f7.f1.length c13] 47))) := (Below.refl _ _).alloc (Nat.le_refl _) _
  have HX0 : Hid (((w.alloc (.cells #[.int .i64 o.f0, .int .i64 o.f1, .int .i64 p, .int .i64 o.f3, .string o.f4.f0, .int .i64 o.f4.f1.f0, .int .i64 o.f4.f1.f1, .string o.f4.f1.f2, .slice A8 o.f4.f1.f3.length c8, .slice A9 o.f4.f2.length c9, .slice A10 o.f5.length c10, .slice A11 o.f6.length c11, .int .i64 o.f7.f0, .slice A13 o.f7.f1.length c13] 47))).heap[w.heap.size]? = some (.cells #[.int .i64 o.f0, .int .i64 o.f1, .int .i64 p, .int .i64 o.f3, .string o.f4.f0, .int .i64 o.f4.f1.f0, .int .i64 o.f4.f1.f1, .string o.f4.f1.f2, .slice A8 o.f4.f1.f3.length c8, .slice A9 o.f4.f2.length c9, .slice A10 o.f5.length c10, .slice A11 o.f6.length c11, .int .i64 o.f7.f0, .slice A13 o.f7.f1.length c13] 47 (0, 0))) := blk_new w _
  have hgl : g < w.heap.size := h.glt
  have c0 : w.cell? ⟨g, 0, none⟩ = some (.int .i64 v.id) := blk_at h.hb 0 rfl
  have c1 : w.cell? ⟨g, 1, none⟩ = some (.bool v.copied) := blk_at h.hb 1 rfl
  have cp := h.shutc p hp4
  have i1 : (0 : Int) ≤ (p : Int) := by omega
  have i2 : (p : Int) < 4 := by omega
  clear h
  go_enter Try.func30, Try.ntmps30
  go_wp2
  go_quiet (fail)
  go_wp2
  clear c0 c1 cp i1 i2 d1
  go_loopw [11, 12] (fun v11 _ wr => ∃ q : Nat, q ≤ n ∧ v11 = .int .i64 q ∧ Hid (Below w.heap.size w wr) ∧ Hid (wr.heap[w.heap.size]? = some (.cells #[.int .i64 o.f0, .int .i64 o.f1, .int .i64 p, .int .i64 o.f3, .string o.f4.f0, .int .i64 o.f4.f1.f0, .int .i64 o.f4.f1.f1, .string o.f4.f1.f2, .slice A8 o.f4.f1.f3.length c8, .slice A9 o.f4.f2.length c9, .slice A10 o.f5.length c10, .slice A11 o.f6.length c11, .int .i64 o.f7.f0, .slice A13 o.f7.f1.length c13] 47 (0, 0))) ∧ Hid (∀ i : Nat, i < q → cond i = true)) (fun v11 _ _ => n - (intOf v11).toNat)
  case atStart => exact ⟨0, Nat.zero_le _, rfl, Lib.hid (pw_below_drewN HB0.out _), Lib.hid (blk_drewN HX0.out _), Lib.hid (fun i hi => absurd hi (Nat.not_lt_zero _))⟩
  case round =>
    clear HB0 HX0
    obtain ⟨q, hk, rfl, HB, HX, HA⟩ := hrel
    have HVr : Hid (VwAt wr base own g v va vp lv) := HW.out.below HB.out
    by_cases hlt : q < n
    · have x2 : wr.cell? ⟨w.heap.size, 2, none⟩ = some (.int .i64 p) := blk_at HX.out 2 rfl
      have x3 : wr.cell? ⟨w.heap.size, 3, none⟩ = some (.int .i64 o.f3) := blk_at HX.out 3 rfl
      have y0 : wr.cell? ⟨g, 0, none⟩ = some (.int .i64 v.id) := blk_at HVr.out.hb 0 rfl
      have i1 : (0 : Int) ≤ (q : Int) := by omega
      have i2 : (q : Int) < 4 := by omega
      have yq := HVr.out.shutc q (by omega)
      have HC := Lib.hid (HCO.out q)
      by_cases e1 : (q : Int) = (p : Int)
      · have f1 : ((q : Int) == (p : Int)) = true := by simp [e1]
        have F1 := Lib.hid f1
        clear e1
        by_cases hb : (q : Int) = back
        · have b1 : ((q : Int) != back) = false := by simp [hb]
          have HA' : Hid (∀ i : Nat, i < q + 1 → cond i = true) := fun i hi => by
            by_cases e : i = q
            · subst e; rw [HC.out]; simp [hb]
            · exact HA.out i (by omega)
          clear hb
          go_wp2
          go_quiet (fail)
          go_wp2
          go_roundw
          case rel => exact ⟨q + 1, by omega, by go_num, Lib.hid (pw_below_drewN HB.out _), Lib.hid (blk_drewN HX.out _), HA'⟩
          case measure => simp [intOf]; omega
        · have b1 : ((q : Int) != back) = true := by simp [hb]
          have HA' : Hid (∀ i : Nat, i < q + 1 → cond i = true) := fun i hi => by
            by_cases e : i = q
            · subst e; rw [HC.out]; simp [F1.out]
            · exact HA.out i (by omega)
          clear hb
          go_wp2
          go_quiet (fail)
          go_wp2
          go_roundw
          case rel => exact ⟨q + 1, by omega, by go_num, Lib.hid (pw_below_drewN HB.out _), Lib.hid (blk_drewN HX.out _), HA'⟩
          case measure => simp [intOf]; omega
      · have f1 : ((q : Int) == (p : Int)) = false := beq_false_of_ne e1
        have F1 := Lib.hid f1
        clear e1
        by_cases hb : (q : Int) = back
        · have b1 : ((q : Int) != back) = false := by simp [hb]
          have HA' : Hid (∀ i : Nat, i < q + 1 → cond i = true) := fun i hi => by
            by_cases e : i = q
            · subst e; rw [HC.out]; simp [hb]
            · exact HA.out i (by omega)
          clear hb
          go_wp2
          go_quiet (fail)
          go_wp2
          go_roundw
          case rel => exact ⟨q + 1, by omega, by go_num, Lib.hid (pw_below_drewN HB.out _), Lib.hid (blk_drewN HX.out _), HA'⟩
          case measure => simp [intOf]; omega
        · have b1 : ((q : Int) != back) = true := by simp [hb]
          have HE : Hid ((List.range n).all cond = false) := List.all_eq_false.2 ⟨q, List.mem_range.2 hlt, by rw [HC.out]; simp [hb, F1.out]⟩
          clear hb
          go_wp2
          go_quiet (fail)
          go_wp2
          go_ret
          exact ⟨congrArg (fun z => Ending.returned (.bool z)) HE.out.symm, Lib.hid (pw_below_drewN HB.out _)⟩
    · have HE : Hid ((List.range n).all cond = true) := List.all_eq_true.2 (fun i hi => HA.out i (by have := List.mem_range.1 hi; omega))
      go_wp2
      go_ret
      exact ⟨congrArg (fun z => Ending.returned (.bool z)) HE.out.symm, HB⟩
set_option maxRecDepth 100000 in
set_option maxHeartbeats 4000000 in
theorem copies30_em (h : VwAt w base own g v va vp lv) (o : S47) (A8 : Option Addr) (c8 : Nat) (A9 : Option Addr) (c9 : Nat) (A10 : Option Addr) (c10 : Nat) (A11 : Option Addr) (c11 : Nat) (A13 : Option Addr) (c13 : Nat) (p n : Nat) (hp4 : p < 4) (mode back : Int) (d1 : decide (o.f3 < v.id) = false) (d2 : (o.f3 == v.id) = true) (d3 : v.copied = false) (d4 : v.shut p = false) (d5 : (mode != 1) = true) : Calls Try.prog 30 #[.pointer (some ⟨g, 0, none⟩), .agg #[.int .i64 o.f0, .int .i64 o.f1, .int .i64 p, .int .i64 o.f3, .string o.f4.f0, .int .i64 o.f4.f1.f0, .int .i64 o.f4.f1.f1, .string o.f4.f1.f2, .slice A8 o.f4.f1.f3.length c8, .slice A9 o.f4.f2.length c9, .slice A10 o.f5.length c10, .slice A11 o.f6.length c11, .int .i64 o.f7.f0, .slice A13 o.f7.f1.length c13], .int .i64 mode, .int .i64 n, .int .i64 back] w fun e w' => e = .returned (.bool true) ∧ Hid (Below w.heap.size w w') := by
  have HW := Lib.hid h
  have HB0 : Hid (Below w.heap.size w (w.alloc (.cells #[.int .i64 o.f0, .int .i64 o.f1, .int .i64 p, .int .i64 o.f3, .string o.f4.f0, .int .i64 o.f4.f1.f0, .int .i64 o.f4.f1.f1, .string o.f4.f1.f2, .slice A8 o.f4.f1.f3.length c8, .slice A9 o.f4.f2.length c9, .slice A10 o.f5.length c10, .slice A11 o.f6.length c11, .int .i64 o.f7.f0, .slice A13 o.f7.f1.length c13] 47))) := (Below.refl _ _).alloc (Nat.le_refl _) _
  have HX0 : Hid (((w.alloc (.cells #[.int .i64 o.f0, .int .i64 o.f1, .int .i64 p, .int .i64 o.f3, .string o.f4.f0, .int .i64 o.f4.f1.f0, .int .i64 o.f4.f1.f1, .string o.f4.f1.f2, .slice A8 o.f4.f1.f3.length c8, .slice A9 o.f4.f2.length c9, .slice A10 o.f5.length c10, .slice A11 o.f6.length c11, .int .i64 o.f7.f0, .slice A13 o.f7.f1.length c13] 47))).heap[w.heap.size]? = some (.cells #[.int .i64 o.f0, .int .i64 o.f1, .int .i64 p, .int .i64 o.f3, .string o.f4.f0, .int .i64 o.f4.f1.f0, .int .i64 o.f4.f1.f1, .string o.f4.f1.f2, .slice A8 o.f4.f1.f3.length c8, .slice A9 o.f4.f2.length c9, .slice A10 o.f5.length c10, .slice A11 o.f6.length c11, .int .i64 o.f7.f0, .slice A13 o.f7.f1.length c13] 47 (0, 0))) := blk_new w _
  have hgl : g < w.heap.size := h.glt
  have c0 : w.cell? ⟨g, 0, none⟩ = some (.int .i64 v.id) := blk_at h.hb 0 rfl
  have c1 : w.cell? ⟨g, 1, none⟩ = some (.bool v.copied) := blk_at h.hb 1 rfl
  have cp := h.shutc p hp4
  have i1 : (0 : Int) ≤ (p : Int) := by omega
  have i2 : (p : Int) < 4 := by omega
  rw [d3] at c1
  rw [d4] at cp
  clear d3 d4
  clear h
  go_enter Try.func30, Try.ntmps30
  go_wp2
  go_quiet (fail)
  go_wp2
  go_ret
  exact ⟨rfl, Lib.hid (pw_below_drewN HB0.out _)⟩
set_option maxRecDepth 100000 in
set_option maxHeartbeats 4000000 in
theorem copies30_ea (h : VwAt w base own g v va vp lv) (o : S47) (A8 : Option Addr) (c8 : Nat) (A9 : Option Addr) (c9 : Nat) (A10 : Option Addr) (c10 : Nat) (A11 : Option Addr) (c11 : Nat) (A13 : Option Addr) (c13 : Nat) (p n : Nat) (hp4 : p < 4) (hn4 : n ≤ 4) (mode back : Int) (d1 : decide (o.f3 < v.id) = false) (d2 : (o.f3 == v.id) = true) (d3 : v.copied = false) (d4 : v.shut p = false) (d5 : (mode != 1) = false) (cond : Nat → Bool) (hcond : ∀ i, cond i = ((i : Int) == back || ((i : Int) == (p : Int) || (true && v.shut i)))) :
    Calls Try.prog 30 #[.pointer (some ⟨g, 0, none⟩), .agg #[.int .i64 o.f0, .int .i64 o.f1, .int .i64 p, .int .i64 o.f3, .string o.f4.f0, .int .i64 o.f4.f1.f0, .int .i64 o.f4.f1.f1, .string o.f4.f1.f2, .slice A8 o.f4.f1.f3.length c8, .slice A9 o.f4.f2.length c9, .slice A10 o.f5.length c10, .slice A11 o.f6.length c11, .int .i64 o.f7.f0, .slice A13 o.f7.f1.length c13], .int .i64 mode, .int .i64 n, .int .i64 back] w fun e w' => e = .returned (.bool ((List.range n).all cond)) ∧ Hid (Below w.heap.size w w') := by
  have HCO := Lib.hid hcond
  clear hcond
  have HW := Lib.hid h
  have HB0 : Hid (Below w.heap.size w (w.alloc (.cells #[.int .i64 o.f0, .int .i64 o.f1, .int .i64 p, .int .i64 o.f3, .string o.f4.f0, .int .i64 o.f4.f1.f0, .int .i64 o.f4.f1.f1, .string o.f4.f1.f2, .slice A8 o.f4.f1.f3.length c8, .slice A9 o.f4.f2.length c9, .slice A10 o.f5.length c10, .slice A11 o.f6.length c11, .int .i64 o.f7.f0, .slice A13 o.f7.f1.length c13] 47))) := (Below.refl _ _).alloc (Nat.le_refl _) _
  have HX0 : Hid (((w.alloc (.cells #[.int .i64 o.f0, .int .i64 o.f1, .int .i64 p, .int .i64 o.f3, .string o.f4.f0, .int .i64 o.f4.f1.f0, .int .i64 o.f4.f1.f1, .string o.f4.f1.f2, .slice A8 o.f4.f1.f3.length c8, .slice A9 o.f4.f2.length c9, .slice A10 o.f5.length c10, .slice A11 o.f6.length c11, .int .i64 o.f7.f0, .slice A13 o.f7.f1.length c13] 47))).heap[w.heap.size]? = some (.cells #[.int .i64 o.f0, .int .i64 o.f1, .int .i64 p, .int .i64 o.f3, .string o.f4.f0, .int .i64 o.f4.f1.f0, .int .i64 o.f4.f1.f1, .string o.f4.f1.f2, .slice A8 o.f4.f1.f3.length c8, .slice A9 o.f4.f2.length c9, .slice A10 o.f5.length c10, .slice A11 o.f6.length c11, .int .i64 o.f7.f0, .slice A13 o.f7.f1.length c13] 47 (0, 0))) := blk_new w _
  have hgl : g < w.heap.size := h.glt
  have c0 : w.cell? ⟨g, 0, none⟩ = some (.int .i64 v.id) := blk_at h.hb 0 rfl
  have c1 : w.cell? ⟨g, 1, none⟩ = some (.bool v.copied) := blk_at h.hb 1 rfl
  have cp := h.shutc p hp4
  have i1 : (0 : Int) ≤ (p : Int) := by omega
  have i2 : (p : Int) < 4 := by omega
  rw [d3] at c1
  rw [d4] at cp
  clear d3 d4
  clear h
  go_enter Try.func30, Try.ntmps30
  go_wp2
  go_quiet (fail)
  go_wp2
  clear c0 c1 cp i1 i2 d1
  go_loopw [11, 12] (fun v11 _ wr => ∃ q : Nat, q ≤ n ∧ v11 = .int .i64 q ∧ Hid (Below w.heap.size w wr) ∧ Hid (wr.heap[w.heap.size]? = some (.cells #[.int .i64 o.f0, .int .i64 o.f1, .int .i64 p, .int .i64 o.f3, .string o.f4.f0, .int .i64 o.f4.f1.f0, .int .i64 o.f4.f1.f1, .string o.f4.f1.f2, .slice A8 o.f4.f1.f3.length c8, .slice A9 o.f4.f2.length c9, .slice A10 o.f5.length c10, .slice A11 o.f6.length c11, .int .i64 o.f7.f0, .slice A13 o.f7.f1.length c13] 47 (0, 0))) ∧ Hid (∀ i : Nat, i < q → cond i = true)) (fun v11 _ _ => n - (intOf v11).toNat)
  case atStart => exact ⟨0, Nat.zero_le _, rfl, Lib.hid (pw_below_drewN HB0.out _), Lib.hid (blk_drewN HX0.out _), Lib.hid (fun i hi => absurd hi (Nat.not_lt_zero _))⟩
  case round =>
    clear HB0 HX0
    obtain ⟨q, hk, rfl, HB, HX, HA⟩ := hrel
    have HVr : Hid (VwAt wr base own g v va vp lv) := HW.out.below HB.out
    by_cases hlt : q < n
    · have x2 : wr.cell? ⟨w.heap.size, 2, none⟩ = some (.int .i64 p) := blk_at HX.out 2 rfl
      have x3 : wr.cell? ⟨w.heap.size, 3, none⟩ = some (.int .i64 o.f3) := blk_at HX.out 3 rfl
      have y0 : wr.cell? ⟨g, 0, none⟩ = some (.int .i64 v.id) := blk_at HVr.out.hb 0 rfl
      have i1 : (0 : Int) ≤ (q : Int) := by omega
      have i2 : (q : Int) < 4 := by omega
      have yq := HVr.out.shutc q (by omega)
      have HC := Lib.hid (HCO.out q)
      by_cases e1 : (q : Int) = (p : Int)
      · have f1 : ((q : Int) == (p : Int)) = true := by simp [e1]
        have F1 := Lib.hid f1
        clear e1
        by_cases hb : (q : Int) = back
        · have b1 : ((q : Int) != back) = false := by simp [hb]
          have HA' : Hid (∀ i : Nat, i < q + 1 → cond i = true) := fun i hi => by
            by_cases e : i = q
            · subst e; rw [HC.out]; simp [hb]
            · exact HA.out i (by omega)
          clear hb
          go_wp2
          go_quiet (fail)
          go_wp2
          go_roundw
          case rel => exact ⟨q + 1, by omega, by go_num, Lib.hid (pw_below_drewN HB.out _), Lib.hid (blk_drewN HX.out _), HA'⟩
          case measure => simp [intOf]; omega
        · have b1 : ((q : Int) != back) = true := by simp [hb]
          have HA' : Hid (∀ i : Nat, i < q + 1 → cond i = true) := fun i hi => by
            by_cases e : i = q
            · subst e; rw [HC.out]; simp [F1.out]
            · exact HA.out i (by omega)
          clear hb
          go_wp2
          go_quiet (fail)
          go_wp2
          go_roundw
          case rel => exact ⟨q + 1, by omega, by go_num, Lib.hid (pw_below_drewN HB.out _), Lib.hid (blk_drewN HX.out _), HA'⟩
          case measure => simp [intOf]; omega
      · have f1 : ((q : Int) == (p : Int)) = false := beq_false_of_ne e1
        have F1 := Lib.hid f1
        clear e1
        rcases hs : v.shut q with _ | _
        · rw [hs] at yq
          have HS := Lib.hid hs
          clear hs
          by_cases hb : (q : Int) = back
          · have b1 : ((q : Int) != back) = false := by simp [hb]
            have HA' : Hid (∀ i : Nat, i < q + 1 → cond i = true) := fun i hi => by
              by_cases e : i = q
              · subst e; rw [HC.out]; simp [hb]
              · exact HA.out i (by omega)
            clear hb
            go_wp2
            go_quiet (fail)
            go_wp2
            go_roundw
            case rel => exact ⟨q + 1, by omega, by go_num, Lib.hid (pw_below_drewN HB.out _), Lib.hid (blk_drewN HX.out _), HA'⟩
            case measure => simp [intOf]; omega
          · have b1 : ((q : Int) != back) = true := by simp [hb]
            have HE : Hid ((List.range n).all cond = false) := List.all_eq_false.2 ⟨q, List.mem_range.2 hlt, by rw [HC.out]; simp [hb, F1.out, HS.out]⟩
            clear hb
            go_wp2
            go_quiet (fail)
            go_wp2
            go_ret
            exact ⟨congrArg (fun z => Ending.returned (.bool z)) HE.out.symm, Lib.hid (pw_below_drewN HB.out _)⟩
        · rw [hs] at yq
          have HS := Lib.hid hs
          clear hs
          by_cases hb : (q : Int) = back
          · have b1 : ((q : Int) != back) = false := by simp [hb]
            have HA' : Hid (∀ i : Nat, i < q + 1 → cond i = true) := fun i hi => by
              by_cases e : i = q
              · subst e; rw [HC.out]; simp [hb]
              · exact HA.out i (by omega)
            clear hb
            go_wp2
            go_quiet (fail)
            go_wp2
            go_roundw
            case rel => exact ⟨q + 1, by omega, by go_num, Lib.hid (pw_below_drewN HB.out _), Lib.hid (blk_drewN HX.out _), HA'⟩
            case measure => simp [intOf]; omega
          · have b1 : ((q : Int) != back) = true := by simp [hb]
            have HA' : Hid (∀ i : Nat, i < q + 1 → cond i = true) := fun i hi => by
              by_cases e : i = q
              · subst e; rw [HC.out]; simp [F1.out, HS.out]
              · exact HA.out i (by omega)
            clear hb
            go_wp2
            go_quiet (fail)
            go_wp2
            go_roundw
            case rel => exact ⟨q + 1, by omega, by go_num, Lib.hid (pw_below_drewN HB.out _), Lib.hid (blk_drewN HX.out _), HA'⟩
            case measure => simp [intOf]; omega
    · have HE : Hid ((List.range n).all cond = true) := List.all_eq_true.2 (fun i hi => HA.out i (by have := List.mem_range.1 hi; omega))
      go_wp2
      go_ret
      exact ⟨congrArg (fun z => Ending.returned (.bool z)) HE.out.symm, HB⟩
theorem copies30 (h : VwAt w base own g v va vp lv) (o : S47) (A8 : Option Addr) (c8 : Nat) (A9 : Option Addr) (c9 : Nat) (A10 : Option Addr) (c10 : Nat) (A11 : Option Addr) (c11 : Nat) (A13 : Option Addr) (c13 : Nat) (p n : Nat) (hp4 : p < 4) (hn4 : n ≤ 4) (mode back : Int) : Calls Try.prog 30 #[.pointer (some ⟨g, 0, none⟩), .agg #[.int .i64 o.f0, .int .i64 o.f1, .int .i64 p, .int .i64 o.f3, .string o.f4.f0, .int .i64 o.f4.f1.f0, .int .i64 o.f4.f1.f1, .string o.f4.f1.f2, .slice A8 o.f4.f1.f3.length c8, .slice A9 o.f4.f2.length c9, .slice A10 o.f5.length c10, .slice A11 o.f6.length c11, .int .i64 o.f7.f0, .slice A13 o.f7.f1.length c13], .int .i64 mode, .int .i64 n, .int .i64 back] w fun e w' => e = .returned (.bool (v.copies p o.f3 mode n back)) ∧ Hid (Below w.heap.size w w') := by
  unfold Vw.copies
  rw [Int.toNat_natCast]
  by_cases a : o.f3 < v.id
  · rw [if_pos (.inl a)]
    exact copies30_a h o A8 c8 A9 c9 A10 c10 A11 c11 A13 c13 p n hp4 mode back (decide_eq_true a)
  by_cases b : o.f3 = v.id
  · have b' : (o.f3 == v.id) = true := by simp [b]
    rcases c : v.copied with _ | _
    · rcases d : v.shut p with _ | _
      · rw [if_neg (by rintro (e | ⟨_, e | e⟩); exact a e; cases e; cases e)]
        by_cases m : mode = 1
        · rw [if_neg (by omega), b']
          exact copies30_ea h o A8 c8 A9 c9 A10 c10 A11 c11 A13 c13 p n hp4 hn4 mode back (decide_eq_false a) b' c d (by simp [m]) _ (fun i => rfl)
        · rw [if_pos m]
          exact copies30_em h o A8 c8 A9 c9 A10 c10 A11 c11 A13 c13 p n hp4 mode back (decide_eq_false a) b' c d (by simp [m])
      · rw [if_pos (.inr ⟨b, .inr rfl⟩)]
        exact copies30_d h o A8 c8 A9 c9 A10 c10 A11 c11 A13 c13 p n hp4 mode back (decide_eq_false a) b' c d
    · rw [if_pos (.inr ⟨b, .inl rfl⟩)]
      exact copies30_c h o A8 c8 A9 c9 A10 c10 A11 c11 A13 c13 p n hp4 mode back (decide_eq_false a) b' c
  · have b' : (o.f3 == v.id) = false := beq_false_of_ne b
    rw [if_neg (by rintro (e | ⟨e, _⟩); exact a e; exact b e)]
    by_cases m : mode = 1
    · rw [if_neg (by omega), b']
      exact copies30_ba h o A8 c8 A9 c9 A10 c10 A11 c11 A13 c13 p n hp4 hn4 mode back (decide_eq_false a) b' (by simp [m]) _ (fun i => rfl)
    · rw [if_pos m]
      exact copies30_bm h o A8 c8 A9 c9 A10 c10 A11 c11 A13 c13 p n hp4 mode back (decide_eq_false a) b' (by simp [m])
end
end Go.Proofs.Ytomfknblehkocaa.C
