/- The statement's view: sees. -/
import Derived.Test.YtomfknblehkocaaVA
namespace Go.Proofs.Ytomfknblehkocaa.C
open Go.RowKit Go.Proofs.YtomfknblehkocaaW.PrintWords Go.Proofs.YtomfknblehkocaaW.PrintLast
set_option linter.unusedVariables false
set_option linter.unusedSimpArgs false
section
variable {w W : World} {base : Nat} {own : Nat → Nat} {g : Nat} {v : Vw} {va vp : Value} {lv : Nat → Value}
theorem Upd.set14 {own : Nat → Nat} {W : World} {g : Nat} (hg : own g ≠ 0) (u0 u1 u2 u3 u4 u5 u6 u7 u8 u9 u10 u11 u12 u13 : Value) : Upd own W own ((((((((((((((W.setCell ⟨g, 0, none⟩ (u0)).setCell ⟨g, 1, none⟩ (u1)).setCell ⟨g, 2, none⟩ (u2)).setCell ⟨g, 3, none⟩ (u3)).setCell ⟨g, 4, none⟩ (u4)).setCell ⟨g, 5, none⟩ (u5)).setCell ⟨g, 6, none⟩ (u6)).setCell ⟨g, 7, none⟩ (u7)).setCell ⟨g, 8, none⟩ (u8)).setCell ⟨g, 9, none⟩ (u9)).setCell ⟨g, 10, none⟩ (u10)).setCell ⟨g, 11, none⟩ (u11)).setCell ⟨g, 12, none⟩ (u12)).setCell ⟨g, 13, none⟩ (u13)) := by
  have h0 := Upd.refl own W
  have h1 := h0.set (p := ⟨g, 0, none⟩) hg u0
  have h2 := h1.set (p := ⟨g, 1, none⟩) hg u1
  have h3 := h2.set (p := ⟨g, 2, none⟩) hg u2
  have h4 := h3.set (p := ⟨g, 3, none⟩) hg u3
  have h5 := h4.set (p := ⟨g, 4, none⟩) hg u4
  have h6 := h5.set (p := ⟨g, 5, none⟩) hg u5
  have h7 := h6.set (p := ⟨g, 6, none⟩) hg u6
  have h8 := h7.set (p := ⟨g, 7, none⟩) hg u7
  have h9 := h8.set (p := ⟨g, 8, none⟩) hg u8
  have h10 := h9.set (p := ⟨g, 9, none⟩) hg u9
  have h11 := h10.set (p := ⟨g, 10, none⟩) hg u10
  have h12 := h11.set (p := ⟨g, 11, none⟩) hg u11
  have h13 := h12.set (p := ⟨g, 12, none⟩) hg u12
  have h14 := h13.set (p := ⟨g, 13, none⟩) hg u13
  exact h14
theorem VwAt.freshd (h : VwAt W base own g v va vp lv) (id : Int) : VwAt ((((((((((((((W.setCell ⟨g, 0, none⟩ (.int .i64 id)).setCell ⟨g, 1, none⟩ (.bool false)).setCell ⟨g, 2, none⟩ (.int .i64 0)).setCell ⟨g, 3, none⟩ (.slice none 0 0)).setCell ⟨g, 4, none⟩ (.slice none 0 0)).setCell ⟨g, 5, none⟩ (.bool false)).setCell ⟨g, 6, none⟩ (.bool false)).setCell ⟨g, 7, none⟩ (.bool false)).setCell ⟨g, 8, none⟩ (.bool false)).setCell ⟨g, 9, none⟩ (.slice none 0 0)).setCell ⟨g, 10, none⟩ (.slice none 0 0)).setCell ⟨g, 11, none⟩ (.slice none 0 0)).setCell ⟨g, 12, none⟩ (.slice none 0 0)).setCell ⟨g, 13, none⟩ (.bool false)) base own g (Vw.fresh id) (.slice none 0 0) (.slice none 0 0) (fun _ => .slice none 0 0) ∧ Upd own W own ((((((((((((((W.setCell ⟨g, 0, none⟩ (.int .i64 id)).setCell ⟨g, 1, none⟩ (.bool false)).setCell ⟨g, 2, none⟩ (.int .i64 0)).setCell ⟨g, 3, none⟩ (.slice none 0 0)).setCell ⟨g, 4, none⟩ (.slice none 0 0)).setCell ⟨g, 5, none⟩ (.bool false)).setCell ⟨g, 6, none⟩ (.bool false)).setCell ⟨g, 7, none⟩ (.bool false)).setCell ⟨g, 8, none⟩ (.bool false)).setCell ⟨g, 9, none⟩ (.slice none 0 0)).setCell ⟨g, 10, none⟩ (.slice none 0 0)).setCell ⟨g, 11, none⟩ (.slice none 0 0)).setCell ⟨g, 12, none⟩ (.slice none 0 0)).setCell ⟨g, 13, none⟩ (.bool false)) := by
  have hg : own g ≠ 0 := by have := h.og; omega
  have h1 : (W.setCell ⟨g, 0, none⟩ (.int .i64 id)).heap[g]? = some (.cells #[.int .i64 id, .bool v.copied, .int .i64 v.st.f0, va, vp, .bool (v.shut 0), .bool (v.shut 1), .bool (v.shut 2), .bool (v.shut 3), lv 0, lv 1, lv 2, lv 3, .bool v.handed] 39 (0, 0)) := blk_put h.hb 0 _ rfl
  have h2 : ((W.setCell ⟨g, 0, none⟩ (.int .i64 id)).setCell ⟨g, 1, none⟩ (.bool false)).heap[g]? = some (.cells #[.int .i64 id, .bool false, .int .i64 v.st.f0, va, vp, .bool (v.shut 0), .bool (v.shut 1), .bool (v.shut 2), .bool (v.shut 3), lv 0, lv 1, lv 2, lv 3, .bool v.handed] 39 (0, 0)) := blk_put h1 1 _ rfl
  have h3 : (((W.setCell ⟨g, 0, none⟩ (.int .i64 id)).setCell ⟨g, 1, none⟩ (.bool false)).setCell ⟨g, 2, none⟩ (.int .i64 0)).heap[g]? = some (.cells #[.int .i64 id, .bool false, .int .i64 0, va, vp, .bool (v.shut 0), .bool (v.shut 1), .bool (v.shut 2), .bool (v.shut 3), lv 0, lv 1, lv 2, lv 3, .bool v.handed] 39 (0, 0)) := blk_put h2 2 _ rfl
  have h4 : ((((W.setCell ⟨g, 0, none⟩ (.int .i64 id)).setCell ⟨g, 1, none⟩ (.bool false)).setCell ⟨g, 2, none⟩ (.int .i64 0)).setCell ⟨g, 3, none⟩ (.slice none 0 0)).heap[g]? = some (.cells #[.int .i64 id, .bool false, .int .i64 0, .slice none 0 0, vp, .bool (v.shut 0), .bool (v.shut 1), .bool (v.shut 2), .bool (v.shut 3), lv 0, lv 1, lv 2, lv 3, .bool v.handed] 39 (0, 0)) := blk_put h3 3 _ rfl
  have h5 : (((((W.setCell ⟨g, 0, none⟩ (.int .i64 id)).setCell ⟨g, 1, none⟩ (.bool false)).setCell ⟨g, 2, none⟩ (.int .i64 0)).setCell ⟨g, 3, none⟩ (.slice none 0 0)).setCell ⟨g, 4, none⟩ (.slice none 0 0)).heap[g]? = some (.cells #[.int .i64 id, .bool false, .int .i64 0, .slice none 0 0, .slice none 0 0, .bool (v.shut 0), .bool (v.shut 1), .bool (v.shut 2), .bool (v.shut 3), lv 0, lv 1, lv 2, lv 3, .bool v.handed] 39 (0, 0)) := blk_put h4 4 _ rfl
  have h6 : ((((((W.setCell ⟨g, 0, none⟩ (.int .i64 id)).setCell ⟨g, 1, none⟩ (.bool false)).setCell ⟨g, 2, none⟩ (.int .i64 0)).setCell ⟨g, 3, none⟩ (.slice none 0 0)).setCell ⟨g, 4, none⟩ (.slice none 0 0)).setCell ⟨g, 5, none⟩ (.bool false)).heap[g]? = some (.cells #[.int .i64 id, .bool false, .int .i64 0, .slice none 0 0, .slice none 0 0, .bool false, .bool (v.shut 1), .bool (v.shut 2), .bool (v.shut 3), lv 0, lv 1, lv 2, lv 3, .bool v.handed] 39 (0, 0)) := blk_put h5 5 _ rfl
  have h7 : (((((((W.setCell ⟨g, 0, none⟩ (.int .i64 id)).setCell ⟨g, 1, none⟩ (.bool false)).setCell ⟨g, 2, none⟩ (.int .i64 0)).setCell ⟨g, 3, none⟩ (.slice none 0 0)).setCell ⟨g, 4, none⟩ (.slice none 0 0)).setCell ⟨g, 5, none⟩ (.bool false)).setCell ⟨g, 6, none⟩ (.bool false)).heap[g]? = some (.cells #[.int .i64 id, .bool false, .int .i64 0, .slice none 0 0, .slice none 0 0, .bool false, .bool false, .bool (v.shut 2), .bool (v.shut 3), lv 0, lv 1, lv 2, lv 3, .bool v.handed] 39 (0, 0)) := blk_put h6 6 _ rfl
  have h8 : ((((((((W.setCell ⟨g, 0, none⟩ (.int .i64 id)).setCell ⟨g, 1, none⟩ (.bool false)).setCell ⟨g, 2, none⟩ (.int .i64 0)).setCell ⟨g, 3, none⟩ (.slice none 0 0)).setCell ⟨g, 4, none⟩ (.slice none 0 0)).setCell ⟨g, 5, none⟩ (.bool false)).setCell ⟨g, 6, none⟩ (.bool false)).setCell ⟨g, 7, none⟩ (.bool false)).heap[g]? = some (.cells #[.int .i64 id, .bool false, .int .i64 0, .slice none 0 0, .slice none 0 0, .bool false, .bool false, .bool false, .bool (v.shut 3), lv 0, lv 1, lv 2, lv 3, .bool v.handed] 39 (0, 0)) := blk_put h7 7 _ rfl
  have h9 : (((((((((W.setCell ⟨g, 0, none⟩ (.int .i64 id)).setCell ⟨g, 1, none⟩ (.bool false)).setCell ⟨g, 2, none⟩ (.int .i64 0)).setCell ⟨g, 3, none⟩ (.slice none 0 0)).setCell ⟨g, 4, none⟩ (.slice none 0 0)).setCell ⟨g, 5, none⟩ (.bool false)).setCell ⟨g, 6, none⟩ (.bool false)).setCell ⟨g, 7, none⟩ (.bool false)).setCell ⟨g, 8, none⟩ (.bool false)).heap[g]? = some (.cells #[.int .i64 id, .bool false, .int .i64 0, .slice none 0 0, .slice none 0 0, .bool false, .bool false, .bool false, .bool false, lv 0, lv 1, lv 2, lv 3, .bool v.handed] 39 (0, 0)) := blk_put h8 8 _ rfl
  have h10 : ((((((((((W.setCell ⟨g, 0, none⟩ (.int .i64 id)).setCell ⟨g, 1, none⟩ (.bool false)).setCell ⟨g, 2, none⟩ (.int .i64 0)).setCell ⟨g, 3, none⟩ (.slice none 0 0)).setCell ⟨g, 4, none⟩ (.slice none 0 0)).setCell ⟨g, 5, none⟩ (.bool false)).setCell ⟨g, 6, none⟩ (.bool false)).setCell ⟨g, 7, none⟩ (.bool false)).setCell ⟨g, 8, none⟩ (.bool false)).setCell ⟨g, 9, none⟩ (.slice none 0 0)).heap[g]? = some (.cells #[.int .i64 id, .bool false, .int .i64 0, .slice none 0 0, .slice none 0 0, .bool false, .bool false, .bool false, .bool false, .slice none 0 0, lv 1, lv 2, lv 3, .bool v.handed] 39 (0, 0)) := blk_put h9 9 _ rfl
  have h11 : (((((((((((W.setCell ⟨g, 0, none⟩ (.int .i64 id)).setCell ⟨g, 1, none⟩ (.bool false)).setCell ⟨g, 2, none⟩ (.int .i64 0)).setCell ⟨g, 3, none⟩ (.slice none 0 0)).setCell ⟨g, 4, none⟩ (.slice none 0 0)).setCell ⟨g, 5, none⟩ (.bool false)).setCell ⟨g, 6, none⟩ (.bool false)).setCell ⟨g, 7, none⟩ (.bool false)).setCell ⟨g, 8, none⟩ (.bool false)).setCell ⟨g, 9, none⟩ (.slice none 0 0)).setCell ⟨g, 10, none⟩ (.slice none 0 0)).heap[g]? = some (.cells #[.int .i64 id, .bool false, .int .i64 0, .slice none 0 0, .slice none 0 0, .bool false, .bool false, .bool false, .bool false, .slice none 0 0, .slice none 0 0, lv 2, lv 3, .bool v.handed] 39 (0, 0)) := blk_put h10 10 _ rfl
  have h12 : ((((((((((((W.setCell ⟨g, 0, none⟩ (.int .i64 id)).setCell ⟨g, 1, none⟩ (.bool false)).setCell ⟨g, 2, none⟩ (.int .i64 0)).setCell ⟨g, 3, none⟩ (.slice none 0 0)).setCell ⟨g, 4, none⟩ (.slice none 0 0)).setCell ⟨g, 5, none⟩ (.bool false)).setCell ⟨g, 6, none⟩ (.bool false)).setCell ⟨g, 7, none⟩ (.bool false)).setCell ⟨g, 8, none⟩ (.bool false)).setCell ⟨g, 9, none⟩ (.slice none 0 0)).setCell ⟨g, 10, none⟩ (.slice none 0 0)).setCell ⟨g, 11, none⟩ (.slice none 0 0)).heap[g]? = some (.cells #[.int .i64 id, .bool false, .int .i64 0, .slice none 0 0, .slice none 0 0, .bool false, .bool false, .bool false, .bool false, .slice none 0 0, .slice none 0 0, .slice none 0 0, lv 3, .bool v.handed] 39 (0, 0)) := blk_put h11 11 _ rfl
  have h13 : (((((((((((((W.setCell ⟨g, 0, none⟩ (.int .i64 id)).setCell ⟨g, 1, none⟩ (.bool false)).setCell ⟨g, 2, none⟩ (.int .i64 0)).setCell ⟨g, 3, none⟩ (.slice none 0 0)).setCell ⟨g, 4, none⟩ (.slice none 0 0)).setCell ⟨g, 5, none⟩ (.bool false)).setCell ⟨g, 6, none⟩ (.bool false)).setCell ⟨g, 7, none⟩ (.bool false)).setCell ⟨g, 8, none⟩ (.bool false)).setCell ⟨g, 9, none⟩ (.slice none 0 0)).setCell ⟨g, 10, none⟩ (.slice none 0 0)).setCell ⟨g, 11, none⟩ (.slice none 0 0)).setCell ⟨g, 12, none⟩ (.slice none 0 0)).heap[g]? = some (.cells #[.int .i64 id, .bool false, .int .i64 0, .slice none 0 0, .slice none 0 0, .bool false, .bool false, .bool false, .bool false, .slice none 0 0, .slice none 0 0, .slice none 0 0, .slice none 0 0, .bool v.handed] 39 (0, 0)) := blk_put h12 12 _ rfl
  have h14 : ((((((((((((((W.setCell ⟨g, 0, none⟩ (.int .i64 id)).setCell ⟨g, 1, none⟩ (.bool false)).setCell ⟨g, 2, none⟩ (.int .i64 0)).setCell ⟨g, 3, none⟩ (.slice none 0 0)).setCell ⟨g, 4, none⟩ (.slice none 0 0)).setCell ⟨g, 5, none⟩ (.bool false)).setCell ⟨g, 6, none⟩ (.bool false)).setCell ⟨g, 7, none⟩ (.bool false)).setCell ⟨g, 8, none⟩ (.bool false)).setCell ⟨g, 9, none⟩ (.slice none 0 0)).setCell ⟨g, 10, none⟩ (.slice none 0 0)).setCell ⟨g, 11, none⟩ (.slice none 0 0)).setCell ⟨g, 12, none⟩ (.slice none 0 0)).setCell ⟨g, 13, none⟩ (.bool false)).heap[g]? = some (.cells #[.int .i64 id, .bool false, .int .i64 0, .slice none 0 0, .slice none 0 0, .bool false, .bool false, .bool false, .bool false, .slice none 0 0, .slice none 0 0, .slice none 0 0, .slice none 0 0, .bool false] 39 (0, 0)) := blk_put h13 13 _ rfl
  refine ⟨⟨h14, Kd.R_nil _ _ _ _ _, Kd.R_nil _ _ _ _ _, fun i hi => ?_, h.og, fun k hk => by simp only [World.size_setCell]; exact h.lo k hk, rfl, rfl⟩, ?_⟩
  · rw [logs_fresh]; exact Kd.R_nil _ _ _ _ _
  · exact Upd.set14 hg _ _ _ _ _ _ _ _ _ _ _ _ _ _
theorem VwAt.rset {α : Type} {d : Kd α} {e t : Nat} {v' : Value} {xs : List α} (h : VwAt W base own g v va vp lv) (hR : d.R e W base (fun k => own k = t) v' xs) (ht : t ≠ 1) (i : Nat) (u : Value) : d.R e (W.setCell ⟨g, i, none⟩ u) base (fun k => own k = t) v' xs :=
  Kd.R_far hR (fun k hk e => by have := h.og; rw [← (show k = g from e)] at this; have h2 : own k = t := hk; omega) u
/-- One cell of the view's block is written, the rows stay. -/
theorem VwAt.put (h : VwAt W base own g v va vp lv) (i : Nat) (u : Value) {v' : Vw} {va' vp' : Value} {lv' : Nat → Value} (hb : (W.setCell ⟨g, i, none⟩ u).heap[g]? = some (.cells #[.int .i64 v'.id, .bool v'.copied, .int .i64 v'.st.f0, va', vp', .bool (v'.shut 0), .bool (v'.shut 1), .bool (v'.shut 2), .bool (v'.shut 3), lv' 0, lv' 1, lv' 2, lv' 3, .bool v'.handed] 39 (0, 0)))
    (ra : Kd.R k104 104 W base (fun k => own k = 4) va' v'.st.f1) (rp : Kd.R k45 45 W base (fun k => own k = 5) vp' v'.pend) (rl : ∀ i, i < 4 → Kd.R k45 45 W base (fun k => own k = 6 + i) (lv' i) (v'.logs.getD i [])) (cl : v'.closed.length = 4) (ll : v'.logs.length = 4) :
    VwAt (W.setCell ⟨g, i, none⟩ u) base own g v' va' vp' lv' :=
  ⟨hb, h.rset ra (by omega) _ _, h.rset rp (by omega) _ _, fun j hj => h.rset (rl j hj) (by omega) _ _, h.og, fun k hk => by simp only [World.size_setCell]; exact h.lo k hk, cl, ll⟩
def Vw.cop (v : Vw) : Vw := ⟨v.id, true, v.st, v.pend, v.closed, v.logs, v.handed⟩
def Vw.stt (v : Vw) (s : S34) : Vw := ⟨v.id, v.copied, s, v.pend, v.closed, v.logs, v.handed⟩
def Vw.pnd (v : Vw) (y : List S45) : Vw := ⟨v.id, v.copied, v.st, y, v.closed, v.logs, v.handed⟩
theorem told_true (v : Vw) (s : S34) (y : List S45) : v.told true s y = ((v.cop).stt s).pnd y := by unfold Vw.told; rw [if_pos rfl]; rfl
theorem told_false (v : Vw) (s : S34) (y : List S45) : v.told false s y = v := by unfold Vw.told; rw [if_neg (by simp)]
theorem VwAt.setCop (h : VwAt W base own g v va vp lv) : VwAt (W.setCell ⟨g, 1, none⟩ (.bool true)) base own g v.cop va vp lv := h.put 1 _ (blk_put h.hb 1 _ rfl) h.ra h.rp h.rl h.cl h.ll
/-- New blocks are the view's, of this tag. -/
theorem VwAt.grow (h : VwAt W base own g v va vp lv) (hbase : base ≤ W.heap.size) {w2 : World} (hb : Below W.heap.size W w2) (t : Nat) : VwAt w2 base (tagged own W.heap.size w2.heap.size t) g v va vp lv ∧ Upd own W (tagged own W.heap.size w2.heap.size t) w2 := by
  have h2 := h.below hb
  have hold : ∀ k, k < W.heap.size → tagged own W.heap.size w2.heap.size t k = own k := fun k hk => tagged_old _ _ _ _ _ hk
  have hR : ∀ {α : Type} {d : Kd α} {e q : Nat} {v' : Value} {xs : List α}, 1 ≤ q → d.R e w2 base (fun k => own k = q) v' xs → d.R e w2 base (fun k => tagged own W.heap.size w2.heap.size t k = q) v' xs := fun hq hR =>
    Kd.R_mono hR (fun k hk => by
      by_cases h1 : k < W.heap.size
      · rw [hold k h1]; exact hk
      · have := h.free (Nat.le_of_not_lt h1); have h3 : own k = _ := hk; omega)
  refine ⟨⟨h2.hb, hR (by omega) h2.ra, hR (by omega) h2.rp, fun i hi => hR (by omega) (h2.rl i hi), by rw [hold g h.glt]; exact h.og, fun k hk => ?_, h.cl, h.ll⟩, Upd.of_below hb hold⟩
  by_cases h1 : k < W.heap.size
  · rw [hold k h1] at hk
    exact ⟨(h.lo k hk).1, Nat.lt_of_lt_of_le h1 hb.size⟩
  · by_cases h3 : k < w2.heap.size
    · exact ⟨by omega, h3⟩
    · unfold tagged at hk; rw [if_neg (by omega)] at hk; exact absurd (h.free (Nat.le_of_not_lt h1)) hk
theorem R_tagged {α : Type} {d : Kd α} {e B t : Nat} {w2 : World} {v' : Value} {xs : List α} (hR : d.R e w2 B (fun _ => True) v' xs) (hbase : base ≤ B) : d.R e w2 base (fun k => tagged own B w2.heap.size t k = t) v' xs :=
  Kd.R_mono (Kd.R_lower (Kd.R_bound hR) hbase) (fun k hk => by unfold tagged; rw [if_pos ⟨hk.2.1, hk.2.2.1⟩])
theorem VwAt.setSt (h : VwAt W base own g v va vp lv) {va' : Value} {s : S34} (ra : Kd.R k104 104 W base (fun k => own k = 4) va' s.f1) : VwAt ((W.setCell ⟨g, 2, none⟩ (.int .i64 s.f0)).setCell ⟨g, 3, none⟩ va') base own g (v.stt s) va' vp lv := by
  have h1 : VwAt (W.setCell ⟨g, 2, none⟩ (.int .i64 s.f0)) base own g (v.stt ⟨s.f0, v.st.f1⟩) va vp lv := h.put 2 _ (blk_put h.hb 2 _ rfl) h.ra h.rp h.rl h.cl h.ll
  exact h1.put 3 _ (blk_put h1.hb 3 _ rfl) (h.rset ra (by omega) _ _) h1.rp h1.rl h.cl h.ll
theorem VwAt.setPnd (h : VwAt W base own g v va vp lv) {vp' : Value} {y : List S45} (rp : Kd.R k45 45 W base (fun k => own k = 5) vp' y) : VwAt (W.setCell ⟨g, 4, none⟩ vp') base own g (v.pnd y) va vp' lv :=
  h.put 4 _ (blk_put h.hb 4 _ rfl) h.ra rp h.rl h.cl h.ll
theorem VwAt.setShut (h : VwAt W base own g v va vp lv) (p : Nat) (hp : p < 4) : VwAt (W.setCell ⟨g, 5 + p, none⟩ (.bool true)) base own g (v.close p) va vp lv := by
  have hs := fun q => shut_close v p q (by rw [h.cl]; exact hp)
  refine h.put (5 + p) _ ?_ h.ra h.rp h.rl (by show (v.closed.set p true).length = 4; rw [List.length_set]; exact h.cl) h.ll
  rw [hs 0, hs 1, hs 2, hs 3]
  match p, hp with
  | 0, _ => exact blk_put h.hb 5 _ rfl
  | 1, _ => exact blk_put h.hb 6 _ rfl
  | 2, _ => exact blk_put h.hb 7 _ rfl
  | 3, _ => exact blk_put h.hb 8 _ rfl
theorem VwAt.setLog (h : VwAt W base own g v va vp lv) (hbase : base ≤ W.heap.size) (p : Nat) (hp : p < 4) {w3 w4 : World} (hb : Below W.heap.size W w3) (hg : w3.grownBy w4 (lv p).ownBlock) {v1 : Value} {x : List S45} (hO : Kd.R k45 45 w4 base (fun k => own k = 6 + p ∨ W.heap.size ≤ k) v1 (v.logs.getD p [] ++ x)) :
    w4.heap[g]? = some (.cells #[.int .i64 v.id, .bool v.copied, .int .i64 v.st.f0, va, vp, .bool (v.shut 0), .bool (v.shut 1), .bool (v.shut 2), .bool (v.shut 3), lv 0, lv 1, lv 2, lv 3, .bool v.handed] 39 (0, 0)) ∧ VwAt (w4.setCell ⟨g, 9 + p, none⟩ v1) base (tagged own W.heap.size w4.heap.size (6 + p)) g (v.logged p x) va vp (fun i => if i = p then v1 else lv i) ∧ Upd own W (tagged own W.heap.size w4.heap.size (6 + p)) (w4.setCell ⟨g, 9 + p, none⟩ v1) := by
  have hr := h.rl p hp
  have s3 := hb.size
  have s4 := hg.size
  have hk : ∀ k, k < W.heap.size → own k ≠ 6 + p → w4.heap[k]? = W.heap[k]? := fun k hk ho => (hg.block k (by omega) (fun e => ho (hr.1 k e.symm))).trans (hb.block k hk)
  have hold : ∀ k, k < W.heap.size → tagged own W.heap.size w4.heap.size (6 + p) k = own k := fun k hk => tagged_old _ _ _ _ _ hk
  have hG := (hk g h.glt (by have := h.og; omega)).trans h.hb
  have hgn : ∀ k, (W.heap.size ≤ k ∨ own k ≠ 1) → k ≠ g := fun k hk e => by
    rcases hk with h1 | h1
    · have := h.glt; omega
    · rw [e] at h1; exact h1 h.og
  have hR : ∀ {α : Type} {d : Kd α} {e q : Nat} {v' : Value} {xs : List α}, 2 ≤ q → q ≠ 6 + p → d.R e W base (fun k => own k = q) v' xs → d.R e (w4.setCell ⟨g, 9 + p, none⟩ v1) base (fun k => tagged own W.heap.size w4.heap.size (6 + p) k = q) v' xs := fun hq hqp hR => by
    have h1 := Kd.R_move (Kd.R_bound hR) (w1 := w4) (fun k hk' => hk k hk'.2.2.1 (by have := hk'.1; omega))
    exact Kd.R_far (Kd.R_mono h1 (fun k hk' => by rw [hold k hk'.2.2.1]; exact hk'.1)) (fun k hk' => hgn k (by
      by_cases h2 : k < W.heap.size
      · right; have h3 : tagged own W.heap.size w4.heap.size (6 + p) k = _ := hk'; rw [hold k h2] at h3; omega
      · exact .inl (Nat.le_of_not_lt h2))) _
  have hx := Kd.R_bound hO
  refine ⟨hG, ⟨?_, hR (by omega) (by omega) h.ra, hR (by omega) (by omega) h.rp, fun i hi => ?_, by rw [hold g h.glt]; exact h.og, fun k hk' => ?_, h.cl, by show (v.logs.set _ _).length = 4; rw [List.length_set]; exact h.ll⟩, ⟨hg.os.trans hb.os, hg.tape.trans hb.tape, hg.output.trans hb.output, by simp only [World.size_setCell]; omega, fun k hk' h0 => (hold k hk').trans h0, fun k hk' h0 => (Below.heap_setCell _ _ _ _ (hgn k (.inr (by omega)))).trans (hk k hk' (by omega))⟩⟩
  · match p, hp with
    | 0, _ => exact blk_put hG 9 _ rfl
    | 1, _ => exact blk_put hG 10 _ rfl
    | 2, _ => exact blk_put hG 11 _ rfl
    | 3, _ => exact blk_put hG 12 _ rfl
  · show Kd.R k45 45 _ _ _ (if i = p then v1 else lv i) ((v.logs.set p (v.logs.getD p [] ++ x)).getD i [])
    by_cases e : i = p
    · subst e
      rw [if_pos rfl, getD_set_eq _ _ _ _ (by rw [h.ll]; exact hp)]
      refine Kd.R_far (Kd.R_mono hx (fun k hk' => ?_)) (fun k hk' => hgn k ?_) _
      · rcases hk'.1 with h1 | h1
        · by_cases h2 : k < W.heap.size
          · rw [hold k h2]; exact h1
          · have := h.free (Nat.le_of_not_lt h2); omega
        · unfold tagged; rw [if_pos ⟨h1, hk'.2.2.1⟩]
      · by_cases h2 : k < W.heap.size
        · right; have h3 : tagged own W.heap.size w4.heap.size (6 + i) k = _ := hk'; rw [hold k h2] at h3; omega
        · exact .inl (Nat.le_of_not_lt h2)
    · rw [if_neg e, getD_set_ne _ _ _ _ _ e]
      exact hR (by omega) (by omega) (h.rl i hi)
  · simp only [World.size_setCell]
    by_cases h1 : k < W.heap.size
    · rw [hold k h1] at hk'
      exact ⟨(h.lo k hk').1, by omega⟩
    · by_cases h3 : k < w4.heap.size
      · exact ⟨by omega, h3⟩
      · unfold tagged at hk'; rw [if_neg (by omega)] at hk'; exact absurd (h.free (Nat.le_of_not_lt h1)) hk'
/-- How far sees has come: the view as it is now, its updates, the call's box. -/
def VSt (w0 W : World) (base : Nat) (own : Nat → Nat) (g : Nat) (v : Vw) (bx : Nat) (box : Obj) : Prop := ∃ own' va vp lv, VwAt W base own' g v va vp lv ∧ Upd own w0 own' W ∧ W.heap[bx]? = some box ∧ own' bx = 0 ∧ base ≤ W.heap.size
end
end Go.Proofs.Ytomfknblehkocaa.C
