/- fill; List. -/
import Derived.Test.YtcbfddhdaamimaaLD
namespace Go.Proofs.Ytcbfddhdaamimaa.PLaneFifo
open Go.RowKit Go.Conc Go.Proofs.YtcbfddhdaamimaaW.PrintWords Go.Proofs.YtcbfddhdaamimaaW.PrintLast
set_option linter.unusedVariables false
set_option linter.unusedSimpArgs false

theorem LaneAt.upd {own own' : Nat → Nat} {w w' : World} {g : Nat} {rm : Int} {sh : Bool} {l : List Pr} {c cap s r : Nat} {S : Nat → Prop} (h : LaneAt own w g rm sh l c cap s r) (h0 : ¬ S 0) (h1 : ¬ S 1) (hu : Upd S own w own' w') : LaneAt own' w' g rm sh l c cap s r where
  hb := hu.blk h.hb (by rw [h.og]; exact h1)
  hc := hu.blk h.hc (by rw [h.oc]; exact h1)
  st := fun p hp => (h.st p hp).upd h0 hu
  og := (hu.same g (blk_lt h.hb) (by rw [h.og]; exact h1)).trans h.og
  oc := (hu.same c (blk_lt h.hc) (by rw [h.oc]; exact h1)).trans h.oc
/-- A block more: nobody's business. -/
theorem Upd.box {S : Nat → Prop} {own : Nat → Nat} {w : World} (o : Obj) : Upd S own w own (w.alloc o) := .of_below' ((Below.refl _ _).alloc (Nat.le_refl _) _) (fun _ _ => rfl)
theorem St.made {α : Type} {d : Kd α} {own : Nat → Nat} {w : World} {base : Nat} {x : α} {cs : List Value} (h : d.M w base (fun k => own k = 0) x cs) : St d own w x cs := fun S o2 w2 hS hu =>
  d.K_of_M (d.M_move (fun k hk => hu.block k hk.2.2.1 (by rw [hk.1]; exact hS)) (d.M_bound h))
/-- What was made, with the cells of each element. -/
theorem pairs_of_R {α : Type} {d : Kd α} (z : α) {own : Nat → Nat} {w : World} {e base : Nat} {v : Value} {xs : List α} (h : d.R e w base (fun k => own k = 0) v xs) : ∃ l : List (α × List Value), l.map (·.1) = xs ∧ (pk d own w).R e w base (fun k => own k = 0) v l := by
  obtain ⟨h0, inner, ho, hr⟩ := h
  refine ⟨(List.range xs.length).map (fun j => (xs.getD j z, (inner.drop (j * d.sz)).take d.sz)), ?_, h0, inner, ?_, ?_, ?_⟩
  · rw [List.map_map]
    apply List.ext_getElem
    · simp
    · intro i h1 h2
      simp only [List.getElem_map, List.getElem_range, Function.comp]
      rw [List.getD_eq_getElem?_getD, List.getElem?_eq_getElem h2, Option.getD_some]
  · rw [List.length_map, List.length_range]; exact ho
  · rw [List.length_map, List.length_range]; exact hr.1
  · intro j p hj
    rw [List.getElem?_map] at hj
    cases hq : (List.range xs.length)[j]? with
    | none => rw [hq] at hj; cases hj
    | some q =>
      rw [hq] at hj
      obtain rfl := Option.some.inj hj
      obtain ⟨hlt, hqe⟩ := List.getElem?_eq_some_iff.1 hq
      rw [List.getElem_range] at hqe
      subst hqe
      rw [List.length_range] at hlt
      refine ⟨rfl, St.made (base := base) (d.M_mono (fun k hk => hk.1) (hr.2 j _ ?_))⟩
      rw [List.getElem?_eq_getElem hlt]
      simp [List.getD_eq_getElem?_getD, List.getElem?_eq_getElem hlt]
theorem mk_chan (n : Nat) (hn : n ≤ 1000000000) (w : World) : (Instr.makeChan 66 (.int .i64 ((n : Int) + 4))).run Try.prog w = .ok (.chan (some w.heap.size)) (w.alloc (.chan (n + 4) #[] false 0 0 false)) := by
  obtain ⟨i0, hi, -, -, hz2⟩ := info_parts info35
  have := run_makeChan (P := Try.prog) (w := w) Try.underlying66 hi .i64 (n + 4) (by omega) (by rw [hz2]; omega)
  rw [show ((n + 4 : Nat) : Int) = (n : Int) + 4 by omega] at this
  exact this
set_option maxRecDepth 100000 in
set_option maxHeartbeats 4000000 in
theorem fill28 (own : Nat → Nat) (w : World) (g : Nat) (ch : Option Nat) (rc rm : Int) (hb : w.heap[g]? = some (.cells #[.chan ch, .int .i64 rc, .int .i64 rm, .bool false] 68 (0, 0))) (hg : own g = 1) (l : List Pr) (A : Option Addr) (cc : Nat) (hC : StC (pk k35 own w) own w A l.length l) (hl : l.length ≤ 900000) :
    Calls Try.prog 28 #[.pointer (some ⟨g, 0, none⟩), .slice A l.length cc] w fun e w' => e = .returned (.tuple #[]) ∧ ∃ own' c' cap' s' r', Hid (LaneAt own' w' g rm false l c' cap' s' r') ∧ Hid (Upd (· = 1) own w own' w') := by
  obtain ⟨n, hn⟩ : ∃ n, n = l.length := ⟨_, rfl⟩
  have Hn := Lib.hid hn
  have HC := Lib.hid hC
  have HB := Lib.hid hb
  have Hg := Lib.hid hg
  have Hgw := Lib.hid (blk_lt hb)
  have hn9 : n ≤ 900000 := by omega
  have hmk := mk_chan n (by omega) w
  have p0 : (w.alloc (.chan (n + 4) #[] false 0 0 false)).cell? ⟨g, 0, none⟩ = some (.chan ch) := blk_at (blk_alloc hb _) 0 rfl
  have z0 : (w.alloc (.chan (n + 4) #[] false 0 0 false)).frozen? ⟨g, 0, none⟩ = false := blk_frozen (blk_alloc hb _) 0
  have p1 : ((w.alloc (.chan (n + 4) #[] false 0 0 false)).setCell ⟨g, 0, none⟩ (.chan (some w.heap.size))).cell? ⟨g, 1, none⟩ = some (.int .i64 rc) := blk_at (blk_put (blk_alloc hb _) 0 _ rfl) 1 rfl
  have z1 : ((w.alloc (.chan (n + 4) #[] false 0 0 false)).setCell ⟨g, 0, none⟩ (.chan (some w.heap.size))).frozen? ⟨g, 1, none⟩ = false := blk_frozen (blk_put (blk_alloc hb _) 0 _ rfl) 1
  rw [← hn]
  clear hC hb hg hl hn
  go_enter Try.func28, Try.ntmps28
  go_upto_region 2 with (fail)
  obtain ⟨own1, hown1⟩ : ∃ own1 : Nat → Nat, own1 = fresh own w 1 := ⟨_, rfl⟩
  have HL1 : Hid (LaneAt own1 (((w.alloc (.chan (n + 4) #[] false 0 0 false)).setCell ⟨g, 0, none⟩ (.chan (some w.heap.size))).setCell ⟨g, 1, none⟩ (.int .i64 0)) g rm false [] w.heap.size (n + 4) 0 0) := Lib.hid {
    hb := blk_put (blk_put (blk_alloc HB.out _) 0 _ rfl) 1 _ rfl
    hc := (Below.heap_setCell _ _ _ _ (by have := Hgw.out; simp only []; omega)).trans ((Below.heap_setCell _ _ _ _ (by have := Hgw.out; simp only []; omega)).trans (blk_new _ _))
    st := fun p hp => by cases hp
    og := by rw [hown1, fresh_old Hgw.out]; exact Hg.out
    oc := by rw [hown1, fresh_new (Nat.le_refl _)] }
  have HU1 : Hid (Upd (· = 1) own w own1 (((w.alloc (.chan (n + 4) #[] false 0 0 false)).setCell ⟨g, 0, none⟩ (.chan (some w.heap.size))).setCell ⟨g, 1, none⟩ (.int .i64 0))) := Lib.hid (by
    rw [hown1]
    exact ((Upd.alloc _ 1).then (Upd.set (p := ⟨g, 0, none⟩) (by show fresh own w 1 g = 1; rw [fresh_old Hgw.out]; exact Hg.out) _)).then (Upd.set (p := ⟨g, 1, none⟩) (by show fresh own w 1 g = 1; rw [fresh_old Hgw.out]; exact Hg.out) _))
  clear hmk p0 z0 p1 z1 hown1
  generalize ((w.alloc (.chan (n + 4) #[] false 0 0 false)).setCell ⟨g, 0, none⟩ (.chan (some w.heap.size))).setCell ⟨g, 1, none⟩ (.int .i64 0) = w1 at *
  generalize w.heap.size = c1 at HL1
  go_wp2_with (fail)
  go_loopw [18] (fun v18 wr => ∃ k, k ≤ n ∧ v18 = .int .i64 (k : Nat) ∧ ∃ ownr c cap s r, Hid (LaneAt ownr wr g rm false (l.take k) c cap s r) ∧ Hid (Upd (· = 1) own w ownr wr)) (fun v18 _ => n - (intOf v18).toNat)
  case atStart => exact ⟨0, Nat.zero_le _, rfl, own1, c1, n + 4, 0, 0, by rw [List.take_zero]; exact HL1, HU1⟩
  case round =>
    obtain ⟨k, hk, rfl, ownr, c, cap, s, r, HL, HU⟩ := hrel
    clear HL1 HU1
    by_cases hlt : k < n
    · obtain ⟨ad, y, B5, d5, B6, d6, rfl, hy, hsy, a0, a1, a2, a3, a4, a5, a6⟩ := at_pk (StC_pk_upd HC.out (S := (· = 1)) (by decide) HU.out).now k (by rw [← Hn.out]; exact hlt)
      have Hy := Lib.hid hy
      have HY := Lib.hid (lay26 ownr (wr.alloc (.cells #[.int .i64 y.f0, .string y.f1.f0, .int .i64 y.f1.f1.f0, .int .i64 y.f1.f1.f1, .string y.f1.f1.f2, .slice B5 y.f1.f1.f3.length d5, .slice B6 y.f1.f2.length d6] 35)) g c cap s r rm (l.take k) (HL.out.upd (S := fun _ => False) (by decide) (by decide) (Upd.box _)) y [.int .i64 y.f0, .string y.f1.f0, .int .i64 y.f1.f1.f0, .int .i64 y.f1.f1.f1, .string y.f1.f1.f2, .slice B5 y.f1.f1.f3.length d5, .slice B6 y.f1.f2.length d6] (hsy.upd (S := fun _ => False) (by decide) (Upd.box _)) (by rw [List.length_take]; omega))
      clear hy hsy
      go_wp2_with (go_at_call 26; refine HY.out.mono ?_; rintro e w2 ⟨rfl, own2, c2, cap2, s2, r2, hl2, hu2⟩)
      have HL2 := Lib.hid hl2
      have HU2 := Lib.hid (HU.out.then ((Upd.box (.cells #[.int .i64 y.f0, .string y.f1.f0, .int .i64 y.f1.f1.f0, .int .i64 y.f1.f1.f1, .string y.f1.f1.f2, .slice B5 y.f1.f1.f3.length d5, .slice B6 y.f1.f2.length d6] 35)).then hu2))
      clear hl2 hu2
      go_roundw
      case rel => exact ⟨k + 1, by omega, by go_num, own2, c2, cap2, s2, r2, by rw [List.take_succ_eq_append_getElem (by rw [← Hn.out]; exact hlt), Hy.out]; exact HL2, HU2⟩
      case measure => simp [intOf]; omega
    · obtain rfl : k = n := by omega
      rw [List.take_of_length_le (by rw [Hn.out]; exact Nat.le_refl _)] at HL
      go_wp2_with (fail)
      go_end0
      exact ⟨rfl, ownr, c, cap, s, r, HL, HU⟩
end Go.Proofs.Ytcbfddhdaamimaa.PLaneFifo
