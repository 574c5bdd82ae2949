/- Part, walked. -/
import Derived.Test.YtomfknblehkocaaBO
namespace Go.Proofs.Ytomfknblehkocaa.C
open Go.RowKit Go.Proofs.YtomfknblehkocaaW.PrintWords Go.Proofs.YtomfknblehkocaaW.PrintLast
set_option linter.unusedVariables false
set_option linter.unusedSimpArgs false
def Bk.ready (b : Bk) : Bool := b.copied && !b.given && b.shutB (-1)
def Bk.handed (b : Bk) : Bk := { b with given := true, st := ⟨0, []⟩, pend := [], logs := List.replicate b.ports.length [] }
section
variable {w : World} {base : Nat} {own : Nat → Nat} {g : Nat} {b : Bk} {gp gl : Nat} {vc vd : Value} {lv : List Value} {Ac Ad : Option Addr} {cc cd : Nat}
theorem Only.drew {g : Nat} {a w : World} (h : Only g a w) : Only g a w.drew := ⟨h.os, h.tape, h.output, h.size, h.block⟩
theorem Only.setFar {g : Nat} {a w : World} (h : Only g a w) {p : Addr} (hp : a.heap.size ≤ p.block) (u : Value) : Only g a (w.setCell p u) :=
  ⟨h.os, h.tape, h.output, by simpa [World.setCell] using h.size, fun k hk hg => (Below.heap_setCell _ _ _ _ (by omega)).trans (h.block k hk hg)⟩
def ownH (own : Nat → Nat) (B g p l : Nat) : Nat → Nat := fun k => if k < B then (if k = g then 1 else if k = p then 2 else 0) else if k = l then 3 else 0
/-- A part that was handed out: what is in it, and whose memory it is. -/
def PartOut (S : Nat → Prop) (w : World) (base : Nat) (v : Value) (st : S34) (logs : List (List S45)) (pend : List S45) : Prop :=
  ∃ (vc : Value) (gl : Nat) (vd : Value) (lv : List Value), v = .agg #[.int .i64 st.f0, vc, .slice (some ⟨gl, 0, none⟩) logs.length logs.length, vd] ∧ Kd.R k104 104 w base S vc st.f1 ∧ Kd.R k45 45 w base S vd pend ∧ w.heap[gl]? = some (.cells lv.toArray 35 (0, 0)) ∧ S gl ∧ lv.length = logs.length ∧ ∀ i, i < logs.length → Kd.R k45 45 w base S (lv.getD i (.slice none 0 0)) (logs.getD i [])
def PartAns (base : Nat) (own : Nat → Nat) (g : Nat) (b : Bk) (w : World) (e : Ending) (w' : World) : Prop :=
  if b.ready = true then ∃ own' v, e = .returned (.tuple #[.int .i64 b.now, v, .bool true]) ∧ BkI w' base own' g b.handed ∧ Upd own w own' w' ∧ PartOut (fun k => own k ≠ 0 ∧ own' k = 0) w' base v b.st b.logs b.pend
  else e = .returned (.tuple #[.int .i64 0, .agg #[.int .i64 0, .slice none 0 0, .slice none 0 0, .slice none 0 0], .bool false]) ∧ BkPost base own g b w w'
theorem BkAt.handing (h : BkAt w base own g b gp gl vc vd lv) (hr : b.ready = true) {W : World} {nb : Nat}
    (hG : W.heap[g]? = some (.cells #[.int .i64 b.mode, .int .i64 b.back, .int .i64 b.now, .slice (some ⟨gp, 0, none⟩) b.ports.length b.ports.length, .slice (some ⟨nb, 0, none⟩) b.ports.length b.ports.length, .bool true, .bool true, .int .i64 0, .slice none 0 0, .slice none 0 0] 78 (0, 0)))
    (hO : Only g w W) (hN : W.heap[nb]? = some (.cells (madeCells #[.slice none 0 0] b.ports.length) 35 (0, 0))) (hnb : w.heap.size < nb) {e : Ending}
    (he : e = .returned (.tuple #[.int .i64 b.now, .agg #[.int .i64 b.st.f0, vc, .slice (some ⟨gl, 0, none⟩) b.ports.length b.ports.length, vd], .bool true])) : PartAns base own g b w e W := by
  obtain ⟨l1, l2, l3⟩ := h.lts
  have hcp : b.copied = true := by unfold Bk.ready at hr; simp at hr; exact hr.1.1
  have og := h.og
  have op := h.op
  have ol := h.ol
  have o3 : ∀ k, k < w.heap.size → k ≠ g → k ≠ gp → ownH own w.heap.size g gp nb k = 0 := fun k h1 h2 h3 => by unfold ownH; rw [if_pos h1, if_neg h2, if_neg h3]
  have hS : ∀ t, 3 ≤ t → ∀ k, k < w.heap.size → own k = t → own k ≠ 0 ∧ ownH own w.heap.size g gp nb k = 0 := fun t ht k hk hkt => ⟨by omega, o3 k hk (fun e => by rw [e] at hkt; omega) (fun e => by rw [e] at hkt; omega)⟩
  have hR : ∀ {α : Type} {d : Kd α} {e t : Nat} {v : Value} {xs : List α}, 3 ≤ t → d.R e w base (fun k => own k = t) v xs → d.R e W base (fun k => own k ≠ 0 ∧ ownH own w.heap.size g gp nb k = 0) v xs := fun ht hR =>
    Kd.R_mono (Kd.R_move (Kd.R_bound hR) (fun k hk => hO.block k hk.2.2.1 (fun e => by have := hk.1; rw [e] at this; omega))) (fun k hk => hS _ ht k hk.2.2.1 hk.1)
  unfold PartAns
  rw [if_pos hr]
  refine ⟨ownH own w.heap.size g gp nb, _, he, ⟨gp, nb, .slice none 0 0, .slice none 0 0, List.replicate b.ports.length (.slice none 0 0), ?_⟩, ?_, ?_⟩
  · have hl2 := blk_lt hN
    refine ⟨?_, ?_, ?_, by unfold Bk.handed; simp, by unfold Bk.handed; simp, h.lp, fun i hi => R_nils _ _ _ _ _ _ _, Kd.R_nil _ _ _ _ _, Kd.R_nil _ _ _ _ _, ?_, ?_, ?_, ?_⟩
    · have : b.handed.copied = true := hcp
      rw [this]
      exact hG
    · exact (hO.block gp l2 h.ne_gp).trans h.hp
    · rw [← made_one]; exact hN
    · unfold ownH; rw [if_pos l1, if_pos rfl]
    · unfold ownH; rw [if_pos l2, if_neg h.ne_gp, if_pos rfl]
    · unfold ownH; rw [if_neg (by omega), if_pos rfl]
    · intro k hk
      have hs := hO.size
      unfold ownH at hk
      by_cases h1 : k < w.heap.size
      · rw [if_pos h1] at hk
        by_cases h2 : k = g
        · subst h2; exact ⟨(h.lo _ (by omega)).1, by omega⟩
        · rw [if_neg h2] at hk
          by_cases h3 : k = gp
          · subst h3; exact ⟨(h.lo _ (by omega)).1, by omega⟩
          · rw [if_neg h3] at hk; exact absurd rfl hk
      · rw [if_neg h1] at hk
        by_cases h2 : k = nb
        · subst h2; exact ⟨by have := (h.lo g (by omega)).1; omega, hl2⟩
        · rw [if_neg h2] at hk; exact absurd rfl hk
  · refine ⟨hO.os, hO.tape, hO.output, hO.size, fun k hk h0 => ?_, fun k hk h0 => hO.block k hk (fun e => by rw [e] at h0; omega)⟩
    exact o3 k hk (fun e => by rw [e] at h0; omega) (fun e => by rw [e] at h0; omega)
  · refine ⟨vc, gl, vd, lv, by rw [h.lb], hR (by omega) h.rc, hR (by omega) h.rd, (hO.block gl l3 h.ne_gl).trans h.hl, hS 3 (by omega) gl l3 ol, by rw [h.ll, h.lb], fun i hi => hR (by omega) (h.rl i (by rw [← h.lb]; exact hi))⟩
set_option maxRecDepth 100000 in
set_option maxHeartbeats 4000000 in
theorem part22_copied (h : BkAt w base own g b gp gl vc vd lv) (hc : b.copied = false) :
    Calls Try.prog 22 #[.pointer (some ⟨g, 0, none⟩)] w fun e w' => e = .returned (.tuple #[.int .i64 0, .agg #[.int .i64 0, .slice none 0 0, .slice none 0 0, .slice none 0 0], .bool false]) ∧ BkPost base own g b w w' := by
  have H0 : Hid (BkAt (w.alloc (.cells #[.int .i64 0, .slice none 0 0, .slice none 0 0, .slice none 0 0] 55)) base own g b gp gl vc vd lv) := h.below ((Below.refl _ _).alloc (Nat.le_refl _) _)
  have U0 : Hid (Upd own w own (w.alloc (.cells #[.int .i64 0, .slice none 0 0, .slice none 0 0, .slice none 0 0] 55))) := Upd.of_below ((Below.refl _ _).alloc (Nat.le_refl _) _) (fun _ _ => rfl)
  have HS := Lib.hid (shut45 H0.out (-1))
  obtain ⟨l1, l2, l3⟩ := h.lts
  have a5 : w.cell? ⟨g, 5, none⟩ = some (.bool b.copied) := h.facts.2.2.2.2.2.1
  have a6 : w.cell? ⟨g, 6, none⟩ = some (.bool b.given) := h.facts.2.2.2.2.2.2.1
  rw [hc] at a5
  clear h hc
  go_enter Try.func22, Try.ntmps22
  go_wp2
  refine bodyPost_ret (results_list (rs := [.tmp 2, .cell 3 55, .tmp 4]) (vs := [.int .i64 0, .agg #[.int .i64 0, .slice none 0 0, .slice none 0 0, .slice none 0 0], .bool false]) rfl (by simp) (.tmp (.cell w.heap.size 55 #[.int .i64 0, .slice none 0 0, .slice none 0 0, .slice none 0 0] (0, 0) _ rfl (blk_new w _) Try.underlying55 rfl (by kernel_rfl) (.tmp .nil)))) rfl ⟨rfl, own, ⟨_, _, _, _, _, H0.out⟩, U0.out⟩
set_option maxRecDepth 100000 in
set_option maxHeartbeats 4000000 in
theorem part22_given (h : BkAt w base own g b gp gl vc vd lv) (hc : b.copied = true) (hg : b.given = true) :
    Calls Try.prog 22 #[.pointer (some ⟨g, 0, none⟩)] w fun e w' => e = .returned (.tuple #[.int .i64 0, .agg #[.int .i64 0, .slice none 0 0, .slice none 0 0, .slice none 0 0], .bool false]) ∧ BkPost base own g b w w' := by
  have H0 : Hid (BkAt (w.alloc (.cells #[.int .i64 0, .slice none 0 0, .slice none 0 0, .slice none 0 0] 55)) base own g b gp gl vc vd lv) := h.below ((Below.refl _ _).alloc (Nat.le_refl _) _)
  have U0 : Hid (Upd own w own (w.alloc (.cells #[.int .i64 0, .slice none 0 0, .slice none 0 0, .slice none 0 0] 55))) := Upd.of_below ((Below.refl _ _).alloc (Nat.le_refl _) _) (fun _ _ => rfl)
  have HS := Lib.hid (shut45 H0.out (-1))
  obtain ⟨l1, l2, l3⟩ := h.lts
  have a5 : w.cell? ⟨g, 5, none⟩ = some (.bool b.copied) := h.facts.2.2.2.2.2.1
  have a6 : w.cell? ⟨g, 6, none⟩ = some (.bool b.given) := h.facts.2.2.2.2.2.2.1
  rw [hc] at a5
  rw [hg] at a6
  clear h hc hg
  go_enter Try.func22, Try.ntmps22
  go_wp2
  refine bodyPost_ret (results_list (rs := [.tmp 2, .cell 3 55, .tmp 4]) (vs := [.int .i64 0, .agg #[.int .i64 0, .slice none 0 0, .slice none 0 0, .slice none 0 0], .bool false]) rfl (by simp) (.tmp (.cell w.heap.size 55 #[.int .i64 0, .slice none 0 0, .slice none 0 0, .slice none 0 0] (0, 0) _ rfl (blk_new w _) Try.underlying55 rfl (by kernel_rfl) (.tmp .nil)))) rfl ⟨rfl, own, ⟨_, _, _, _, _, H0.out⟩, U0.out⟩
set_option maxRecDepth 100000 in
set_option maxHeartbeats 4000000 in
theorem part22_open (h : BkAt w base own g b gp gl vc vd lv) (hc : b.copied = true) (hg : b.given = false) (hs : b.shutB (-1) = false) :
    Calls Try.prog 22 #[.pointer (some ⟨g, 0, none⟩)] w fun e w' => e = .returned (.tuple #[.int .i64 0, .agg #[.int .i64 0, .slice none 0 0, .slice none 0 0, .slice none 0 0], .bool false]) ∧ BkPost base own g b w w' := by
  have H0 : Hid (BkAt (w.alloc (.cells #[.int .i64 0, .slice none 0 0, .slice none 0 0, .slice none 0 0] 55)) base own g b gp gl vc vd lv) := h.below ((Below.refl _ _).alloc (Nat.le_refl _) _)
  have U0 : Hid (Upd own w own (w.alloc (.cells #[.int .i64 0, .slice none 0 0, .slice none 0 0, .slice none 0 0] 55))) := Upd.of_below ((Below.refl _ _).alloc (Nat.le_refl _) _) (fun _ _ => rfl)
  have HS := Lib.hid (shut45 H0.out (-1))
  obtain ⟨l1, l2, l3⟩ := h.lts
  have a5 : w.cell? ⟨g, 5, none⟩ = some (.bool b.copied) := h.facts.2.2.2.2.2.1
  have a6 : w.cell? ⟨g, 6, none⟩ = some (.bool b.given) := h.facts.2.2.2.2.2.2.1
  rw [hc] at a5
  rw [hg] at a6
  rw [hs] at HS
  clear h hc hg hs
  go_enter Try.func22, Try.ntmps22
  go_wp2_with (first
    | (go_at_call 45; refine HS.out.mono ?_; rintro e w3 ⟨rfl, rfl⟩))
  refine bodyPost_ret (results_list (rs := [.tmp 2, .cell 3 55, .tmp 4]) (vs := [.int .i64 0, .agg #[.int .i64 0, .slice none 0 0, .slice none 0 0, .slice none 0 0], .bool false]) rfl (by simp) (.tmp (.cell w.heap.size 55 #[.int .i64 0, .slice none 0 0, .slice none 0 0, .slice none 0 0] (0, 0) _ rfl (blk_new w _) Try.underlying55 rfl (by kernel_rfl) (.tmp .nil)))) rfl ⟨rfl, own, ⟨_, _, _, _, _, H0.out⟩, U0.out⟩
set_option maxRecDepth 100000 in
set_option maxHeartbeats 4000000 in
theorem part22_ready (h : BkAt w base own g b gp gl (.slice Ac b.st.f1.length cc) (.slice Ad b.pend.length cd) lv) (hc : b.copied = true) (hg : b.given = false) (hs : b.shutB (-1) = true) :
    Calls Try.prog 22 #[.pointer (some ⟨g, 0, none⟩)] w fun e w' => PartAns base own g b w e w' := by
  have hm2 := run_make_row' (P := Try.prog) 53 35 (.slice none 0 0) 24 Try.underlying53 info35 rfl .i64 .i64 b.ports.length (by have := h.lp; omega) (by have := h.lp; omega)
  have H0 : Hid (BkAt (w.alloc (.cells #[.int .i64 0, .slice none 0 0, .slice none 0 0, .slice none 0 0] 55)) base own g b gp gl _ _ lv) := h.below ((Below.refl _ _).alloc (Nat.le_refl _) _)
  have HS := Lib.hid (shut45 H0.out (-1))
  rw [hs] at HS
  have H := Lib.hid h
  have Hrdy : Hid (b.ready = true) := by show _ = _; unfold Bk.ready; rw [hc, hg, hs]; rfl
  obtain ⟨l1, l2, l3⟩ := h.lts
  have n1 : g ≠ w.heap.size := by omega
  have n2 : w.heap.size ≠ g := by omega
  have a0 : w.cell? ⟨g, 0, none⟩ = some (.int .i64 b.mode) := blk_at h.hb 0 rfl
  have a1 : w.cell? ⟨g, 1, none⟩ = some (.int .i64 b.back) := blk_at h.hb 1 rfl
  have a2 : w.cell? ⟨g, 2, none⟩ = some (.int .i64 b.now) := blk_at h.hb 2 rfl
  have a3 : w.cell? ⟨g, 3, none⟩ = some (.slice (some ⟨gp, 0, none⟩) b.ports.length b.ports.length) := blk_at h.hb 3 rfl
  have a4 : w.cell? ⟨g, 4, none⟩ = some (.slice (some ⟨gl, 0, none⟩) b.ports.length b.ports.length) := blk_at h.hb 4 rfl
  have a5 : w.cell? ⟨g, 5, none⟩ = some (.bool b.copied) := blk_at h.hb 5 rfl
  have a6 : w.cell? ⟨g, 6, none⟩ = some (.bool b.given) := blk_at h.hb 6 rfl
  have a7 : w.cell? ⟨g, 7, none⟩ = some (.int .i64 b.st.f0) := blk_at h.hb 7 rfl
  have a8 : w.cell? ⟨g, 8, none⟩ = some (.slice Ac b.st.f1.length cc) := blk_at h.hb 8 rfl
  have a9 : w.cell? ⟨g, 9, none⟩ = some (.slice Ad b.pend.length cd) := blk_at h.hb 9 rfl
  have f6 : w.frozen? ⟨g, 6, none⟩ = false := blk_frozen h.hb 6
  rw [hg] at a6
  have HbT : Hid (w.heap[g]? = some (.cells #[.int .i64 b.mode, .int .i64 b.back, .int .i64 b.now, .slice (some ⟨gp, 0, none⟩) b.ports.length b.ports.length, .slice (some ⟨gl, 0, none⟩) b.ports.length b.ports.length, .bool true, .bool b.given, .int .i64 b.st.f0, .slice Ac b.st.f1.length cc, .slice Ad b.pend.length cd] 78 (0, 0))) := by rw [← hc]; exact h.hb
  rw [hc] at a5
  clear h hc hg hs
  have G1 : Hid (((w.setCell ⟨g, 6, none⟩ (.bool true)).alloc (.cells #[.int .i64 0, .slice none 0 0, .slice none 0 0, .slice none 0 0] 55)).heap[g]? = some (.cells #[.int .i64 b.mode, .int .i64 b.back, .int .i64 b.now, .slice (some ⟨gp, 0, none⟩) b.ports.length b.ports.length, .slice (some ⟨gl, 0, none⟩) b.ports.length b.ports.length, .bool true, .bool true, .int .i64 b.st.f0, .slice Ac b.st.f1.length cc, .slice Ad b.pend.length cd] 78 (0, 0))) := blk_alloc (blk_put HbT.out 6 _ rfl) _
  have D1 : Hid (((w.setCell ⟨g, 6, none⟩ (.bool true)).alloc (.cells #[.int .i64 0, .slice none 0 0, .slice none 0 0, .slice none 0 0] 55)).heap[w.heap.size]? = some (.cells #[.int .i64 0, .slice none 0 0, .slice none 0 0, .slice none 0 0] 55)) := by
    have := blk_new (w.setCell ⟨g, 6, none⟩ (.bool true)) (.cells #[.int .i64 0, .slice none 0 0, .slice none 0 0, .slice none 0 0] 55)
    simp only [World.size_setCell] at this
    exact this
  have O1 : Hid (Only g w ((w.setCell ⟨g, 6, none⟩ (.bool true)).alloc (.cells #[.int .i64 0, .slice none 0 0, .slice none 0 0, .slice none 0 0] 55))) := ((Only.refl g w).set 6 _).alloc _
  go_enter Try.func22, Try.ntmps22
  go_wp2_with (first
    | (go_at_call 45; refine HS.out.mono ?_; rintro e w' ⟨rfl, rfl⟩))
  have q4 : ((w.setCell ⟨g, 6, none⟩ (.bool true)).alloc (.cells #[.int .i64 0, .slice none 0 0, .slice none 0 0, .slice none 0 0] 55)).cell? ⟨g, 4, none⟩ = some (.slice (some ⟨gl, 0, none⟩) b.ports.length b.ports.length) := blk_at G1.out 4 rfl
  have q7 : ((w.setCell ⟨g, 6, none⟩ (.bool true)).alloc (.cells #[.int .i64 0, .slice none 0 0, .slice none 0 0, .slice none 0 0] 55)).cell? ⟨g, 7, none⟩ = some (.int .i64 b.st.f0) := blk_at G1.out 7 rfl
  have q8 : ((w.setCell ⟨g, 6, none⟩ (.bool true)).alloc (.cells #[.int .i64 0, .slice none 0 0, .slice none 0 0, .slice none 0 0] 55)).cell? ⟨g, 8, none⟩ = some (.slice Ac b.st.f1.length cc) := blk_at G1.out 8 rfl
  have q9 : ((w.setCell ⟨g, 6, none⟩ (.bool true)).alloc (.cells #[.int .i64 0, .slice none 0 0, .slice none 0 0, .slice none 0 0] 55)).cell? ⟨g, 9, none⟩ = some (.slice Ad b.pend.length cd) := blk_at G1.out 9 rfl
  refine start_ (n := 17) (S := (fun w' => w'.cell? ⟨g, 4, none⟩ = some (.slice (some ⟨gl, 0, none⟩) b.ports.length b.ports.length) ∧ w'.cell? ⟨g, 7, none⟩ = some (.int .i64 b.st.f0) ∧ w'.cell? ⟨g, 8, none⟩ = some (.slice Ac b.st.f1.length cc) ∧ w'.cell? ⟨g, 9, none⟩ = some (.slice Ad b.pend.length cd))) (ds := [16]) #[false, false, false, false, false, false, false, false, false, false, false, false, false, false, false, false, false] (by kernel_rfl) rfl rfl ⟨q4, q7, q8, q9⟩ (fun hHeld => ?_)
  have GW : Hid (((w.setCell ⟨g, 6, none⟩ (.bool true)).alloc (.cells #[.int .i64 0, .slice none 0 0, .slice none 0 0, .slice none 0 0] 55)).drew.heap[g]? = some (.cells #[.int .i64 b.mode, .int .i64 b.back, .int .i64 b.now, .slice (some ⟨gp, 0, none⟩) b.ports.length b.ports.length, .slice (some ⟨gl, 0, none⟩) b.ports.length b.ports.length, .bool true, .bool true, .int .i64 b.st.f0, .slice Ac b.st.f1.length cc, .slice Ad b.pend.length cd] 78 (0, 0))) := G1.out
  have DW : Hid (((w.setCell ⟨g, 6, none⟩ (.bool true)).alloc (.cells #[.int .i64 0, .slice none 0 0, .slice none 0 0, .slice none 0 0] 55)).drew.heap[w.heap.size]? = some (.cells #[.int .i64 0, .slice none 0 0, .slice none 0 0, .slice none 0 0] 55)) := D1.out
  have OW : Hid (Only g w ((w.setCell ⟨g, 6, none⟩ (.bool true)).alloc (.cells #[.int .i64 0, .slice none 0 0, .slice none 0 0, .slice none 0 0] 55)).drew) := O1.out.drew
  generalize ((w.setCell ⟨g, 6, none⟩ (.bool true)).alloc (.cells #[.int .i64 0, .slice none 0 0, .slice none 0 0, .slice none 0 0] 55)).drew = W at hHeld GW DW OW ⊢
  refine pure_ (i := 0) (N := some 28) (v := ?_) (a' := ?_) #[true, false, false, false, false, false, false, false, false, false, false, false, false, false, false, false, false] rfl rfl (by kernel_rfl) (fun _ _ _ h => h) (Or.inl ⟨by rfl, ?_⟩) ?_ ?_
  rotate_left
  · intro w'
    go_simp
    with_reducible rfl
  rotate_left
  · simp only [Act.put, List.setIfInBounds_toArray, List.set_cons_zero, List.set_cons_succ]
    rfl
  refine pure_ (i := 1) (N := some 29) (v := ?_) (a' := ?_) #[true, true, false, false, false, false, false, false, false, false, false, false, false, false, false, false, false] rfl rfl (by kernel_rfl) (fun _ _ _ h => h) (Or.inl ⟨by rfl, ?_⟩) ?_ ?_
  rotate_left
  · intro w'
    go_simp
    with_reducible rfl
  rotate_left
  · simp only [Act.put, List.setIfInBounds_toArray, List.set_cons_zero, List.set_cons_succ]
    rfl
  refine pure_ (i := 2) (N := some 30) (v := ?_) (a' := ?_) #[true, true, true, false, false, false, false, false, false, false, false, false, false, false, false, false, false] rfl rfl (by kernel_rfl) (fun _ _ _ h => h) (Or.inl ⟨by rfl, ?_⟩) ?_ ?_
  rotate_left
  · intro w'
    go_simp
    with_reducible rfl
  rotate_left
  · simp only [Act.put, List.setIfInBounds_toArray, List.set_cons_zero, List.set_cons_succ]
    rfl
  refine pure_ (i := 3) (N := some 31) (v := ?_) (a' := ?_) #[true, true, true, true, false, false, false, false, false, false, false, false, false, false, false, false, false] rfl rfl (by kernel_rfl) (fun _ _ _ h => h) (Or.inl ⟨by rfl, ?_⟩) ?_ ?_
  rotate_left
  · intro w'
    go_simp
    with_reducible rfl
  rotate_left
  · simp only [Act.put, List.setIfInBounds_toArray, List.set_cons_zero, List.set_cons_succ]
    rfl
  refine take_ (i := 4) (N := some 32) (v := ?_) (a' := ?_) #[true, true, true, true, true, false, false, false, false, false, false, false, false, false, false, false, false] rfl rfl (by kernel_rfl) (fun _ _ _ h => h) (Or.inl ⟨by rfl, ?_⟩) hHeld ?_ ?_
  rotate_left
  · rintro w' ⟨s0, s1, s2, s3⟩
    go_simp
    with_reducible rfl
  rotate_left
  · simp only [Act.put, List.setIfInBounds_toArray, List.set_cons_zero, List.set_cons_succ]
    rfl
  refine pure_ (i := 5) (N := some 33) (v := ?_) (a' := ?_) #[true, true, true, true, true, true, false, false, false, false, false, false, false, false, false, false, false] rfl rfl (by kernel_rfl) (fun _ _ _ h => h) (Or.inl ⟨by rfl, ?_⟩) ?_ ?_
  rotate_left
  · intro w'
    go_simp
    with_reducible rfl
  rotate_left
  · simp only [Act.put, List.setIfInBounds_toArray, List.set_cons_zero, List.set_cons_succ]
    rfl
  refine pure_ (i := 6) (N := some 34) (v := ?_) (a' := ?_) #[true, true, true, true, true, true, true, false, false, false, false, false, false, false, false, false, false] rfl rfl (by kernel_rfl) (fun _ _ _ h => h) (Or.inl ⟨by rfl, ?_⟩) ?_ ?_
  rotate_left
  · intro w'
    go_simp
    with_reducible rfl
  rotate_left
  · simp only [Act.put, List.setIfInBounds_toArray, List.set_cons_zero, List.set_cons_succ]
    rfl
  refine pure_ (i := 7) (N := some 35) (v := ?_) (a' := ?_) #[true, true, true, true, true, true, true, true, false, false, false, false, false, false, false, false, false] rfl rfl (by kernel_rfl) (fun _ _ _ h => h) (Or.inl ⟨by rfl, ?_⟩) ?_ ?_
  rotate_left
  · intro w'
    go_simp
    with_reducible rfl
  rotate_left
  · simp only [Act.put, List.setIfInBounds_toArray, List.set_cons_zero, List.set_cons_succ]
    rfl
  refine pure_ (i := 8) (N := some 36) (v := ?_) (a' := ?_) #[true, true, true, true, true, true, true, true, true, false, false, false, false, false, false, false, false] rfl rfl (by kernel_rfl) (fun _ _ _ h => h) (Or.inl ⟨by rfl, ?_⟩) ?_ ?_
  rotate_left
  · intro w'
    go_simp
    with_reducible rfl
  rotate_left
  · simp only [Act.put, List.setIfInBounds_toArray, List.set_cons_zero, List.set_cons_succ]
    rfl
  refine take_ (i := 9) (N := some 37) (v := ?_) (a' := ?_) #[true, true, true, true, true, true, true, true, true, true, false, false, false, false, false, false, false] rfl rfl (by kernel_rfl) (fun _ _ _ h => h) (Or.inl ⟨by rfl, ?_⟩) hHeld ?_ ?_
  rotate_left
  · rintro w' ⟨s0, s1, s2, s3⟩
    go_simp
    with_reducible rfl
  rotate_left
  · simp only [Act.put, List.setIfInBounds_toArray, List.set_cons_zero, List.set_cons_succ]
    rfl
  refine pure_ (i := 10) (N := some 38) (v := ?_) (a' := ?_) #[true, true, true, true, true, true, true, true, true, true, true, false, false, false, false, false, false] rfl rfl (by kernel_rfl) (fun _ _ _ h => h) (Or.inl ⟨by rfl, ?_⟩) ?_ ?_
  rotate_left
  · intro w'
    go_simp
    with_reducible rfl
  rotate_left
  · simp only [Act.put, List.setIfInBounds_toArray, List.set_cons_zero, List.set_cons_succ]
    rfl
  refine pure_ (i := 11) (N := some 39) (v := ?_) (a' := ?_) #[true, true, true, true, true, true, true, true, true, true, true, true, false, false, false, false, false] rfl rfl (by kernel_rfl) (fun _ _ _ h => h) (Or.inl ⟨by rfl, ?_⟩) ?_ ?_
  rotate_left
  · intro w'
    go_simp
    with_reducible rfl
  rotate_left
  · simp only [Act.put, List.setIfInBounds_toArray, List.set_cons_zero, List.set_cons_succ]
    rfl
  refine pure_ (i := 12) (N := some 40) (v := ?_) (a' := ?_) #[true, true, true, true, true, true, true, true, true, true, true, true, true, false, false, false, false] rfl rfl (by kernel_rfl) (fun _ _ _ h => h) (Or.inl ⟨by rfl, ?_⟩) ?_ ?_
  rotate_left
  · intro w'
    go_simp
    with_reducible rfl
  rotate_left
  · simp only [Act.put, List.setIfInBounds_toArray, List.set_cons_zero, List.set_cons_succ]
    rfl
  refine pure_ (i := 13) (N := some 41) (v := ?_) (a' := ?_) #[true, true, true, true, true, true, true, true, true, true, true, true, true, true, false, false, false] rfl rfl (by kernel_rfl) (fun _ _ _ h => h) (Or.inl ⟨by rfl, ?_⟩) ?_ ?_
  rotate_left
  · intro w'
    go_simp
    with_reducible rfl
  rotate_left
  · simp only [Act.put, List.setIfInBounds_toArray, List.set_cons_zero, List.set_cons_succ]
    rfl
  refine take_ (i := 14) (N := some 42) (v := ?_) (a' := ?_) #[true, true, true, true, true, true, true, true, true, true, true, true, true, true, true, false, false] rfl rfl (by kernel_rfl) (fun _ _ _ h => h) (Or.inl ⟨by rfl, ?_⟩) hHeld ?_ ?_
  rotate_left
  · rintro w' ⟨s0, s1, s2, s3⟩
    go_simp
    with_reducible rfl
  rotate_left
  · simp only [Act.put, List.setIfInBounds_toArray, List.set_cons_zero, List.set_cons_succ]
    rfl
  refine pure_ (i := 15) (N := some 43) (v := ?_) (a' := ?_) #[true, true, true, true, true, true, true, true, true, true, true, true, true, true, true, true, false] rfl rfl (by kernel_rfl) (fun _ _ _ h => h) (Or.inl ⟨by rfl, ?_⟩) ?_ ?_
  rotate_left
  · intro w'
    go_simp
    with_reducible rfl
  rotate_left
  · simp only [Act.put, List.setIfInBounds_toArray, List.set_cons_zero, List.set_cons_succ]
    rfl
  refine last_ (i := 16) (N := none) #[true, true, true, true, true, true, true, true, true, true, true, true, true, true, true, true, true] rfl rfl (by kernel_rfl) (by decide) (fun K hK => ?_)
  have z0 : W.frozen? ⟨w.heap.size, 0, none⟩ = false := blk_frozen DW.out 0
  have y0 : W.cell? ⟨w.heap.size, 0, none⟩ = some (.int .i64 0) := blk_at DW.out 0 rfl
  have z0 : W.frozen? ⟨w.heap.size, 0, none⟩ = false := blk_frozen DW.out 0
  have y1 : W.cell? ⟨w.heap.size, 1, none⟩ = some (.slice none 0 0) := blk_at DW.out 1 rfl
  have z1 : W.frozen? ⟨w.heap.size, 1, none⟩ = false := blk_frozen DW.out 1
  have y2 : W.cell? ⟨w.heap.size, 2, none⟩ = some (.slice none 0 0) := blk_at DW.out 2 rfl
  have z2 : W.frozen? ⟨w.heap.size, 2, none⟩ = false := blk_frozen DW.out 2
  have y3 : W.cell? ⟨w.heap.size, 3, none⟩ = some (.slice none 0 0) := blk_at DW.out 3 rfl
  have z3 : W.frozen? ⟨w.heap.size, 3, none⟩ = false := blk_frozen DW.out 3
  refine skip_ (w1 := ?_) (by rfl) rfl ?_ ?_
  rotate_left
  · go_simp
    rfl
  
  refine hK.out _ _ ?_
  clear hK K
  refine done_ (by kernel_rfl) ?_
  have D5 : Hid (((((W.setCell ⟨w.heap.size, 0, none⟩ (.int .i64 b.st.f0)).setCell ⟨w.heap.size, 1, none⟩ (.slice Ac b.st.f1.length cc)).setCell ⟨w.heap.size, 2, none⟩ (.slice (some ⟨gl, 0, none⟩) b.ports.length b.ports.length)).setCell ⟨w.heap.size, 3, none⟩ (.slice Ad b.pend.length cd)).heap[w.heap.size]? = some (.cells #[.int .i64 b.st.f0, .slice Ac b.st.f1.length cc, .slice (some ⟨gl, 0, none⟩) b.ports.length b.ports.length, .slice Ad b.pend.length cd] 55 (0, 0))) := blk_put (blk_put (blk_put (blk_put DW.out 0 _ rfl) 1 _ rfl) 2 _ rfl) 3 _ rfl
  have G5 : Hid (((((W.setCell ⟨w.heap.size, 0, none⟩ (.int .i64 b.st.f0)).setCell ⟨w.heap.size, 1, none⟩ (.slice Ac b.st.f1.length cc)).setCell ⟨w.heap.size, 2, none⟩ (.slice (some ⟨gl, 0, none⟩) b.ports.length b.ports.length)).setCell ⟨w.heap.size, 3, none⟩ (.slice Ad b.pend.length cd)).heap[g]? = some (.cells #[.int .i64 b.mode, .int .i64 b.back, .int .i64 b.now, .slice (some ⟨gp, 0, none⟩) b.ports.length b.ports.length, .slice (some ⟨gl, 0, none⟩) b.ports.length b.ports.length, .bool true, .bool true, .int .i64 b.st.f0, .slice Ac b.st.f1.length cc, .slice Ad b.pend.length cd] 78 (0, 0))) := blk_far (blk_far (blk_far (blk_far GW.out n1 _) n1 _) n1 _) n1 _
  have O5 : Hid (Only g w ((((W.setCell ⟨w.heap.size, 0, none⟩ (.int .i64 b.st.f0)).setCell ⟨w.heap.size, 1, none⟩ (.slice Ac b.st.f1.length cc)).setCell ⟨w.heap.size, 2, none⟩ (.slice (some ⟨gl, 0, none⟩) b.ports.length b.ports.length)).setCell ⟨w.heap.size, 3, none⟩ (.slice Ad b.pend.length cd))) := (((OW.out.setFar (Nat.le_refl _) _).setFar (Nat.le_refl _) _).setFar (Nat.le_refl _) _).setFar (Nat.le_refl _) _
  generalize ((((W.setCell ⟨w.heap.size, 0, none⟩ (.int .i64 b.st.f0)).setCell ⟨w.heap.size, 1, none⟩ (.slice Ac b.st.f1.length cc)).setCell ⟨w.heap.size, 2, none⟩ (.slice (some ⟨gl, 0, none⟩) b.ports.length b.ports.length)).setCell ⟨w.heap.size, 3, none⟩ (.slice Ad b.pend.length cd)) = w5 at D5 G5 O5 ⊢
  clear hHeld y0 z0 q4 y1 z1 q7 y2 z2 q8 y3 z3 q9
  go_wp2
  refine start_ (n := 23) (S := (fun w' => w'.cell? ⟨g, 3, none⟩ = some (.slice (some ⟨gp, 0, none⟩) b.ports.length b.ports.length))) (ds := [22]) #[false, false, false, false, false, false, false, false, false, false, false, false, false, false, false, false, false, false, false, false, false, false, false] (by kernel_rfl) rfl rfl (blk_at G5.out 3 rfl) (fun hHeld => ?_)
  have GX0 : Hid (w5.drew.heap[g]? = some (.cells #[.int .i64 b.mode, .int .i64 b.back, .int .i64 b.now, .slice (some ⟨gp, 0, none⟩) b.ports.length b.ports.length, .slice (some ⟨gl, 0, none⟩) b.ports.length b.ports.length, .bool true, .bool true, .int .i64 b.st.f0, .slice Ac b.st.f1.length cc, .slice Ad b.pend.length cd] 78 (0, 0))) := G5.out
  have DX0 : Hid (w5.drew.heap[w.heap.size]? = some (.cells #[.int .i64 b.st.f0, .slice Ac b.st.f1.length cc, .slice (some ⟨gl, 0, none⟩) b.ports.length b.ports.length, .slice Ad b.pend.length cd] 55 (0, 0))) := D5.out
  have OX0 : Hid (Only g w w5.drew) := O5.out.drew
  obtain ⟨nb, hnb0⟩ : ∃ nb, nb = w5.drew.heap.size := ⟨_, rfl⟩
  have nbg : nb ≠ g := by rw [hnb0]; have := blk_lt GX0.out; omega
  have nb1 : w.heap.size < nb := by rw [hnb0]; exact blk_lt DX0.out
  have nb2 : nb ≠ w.heap.size := by omega
  clear D5 G5 O5
  generalize w5.drew = W0 at hHeld GX0 DX0 OX0 hnb0 ⊢
  refine pure_ (i := 0) (N := some 44) (v := ?_) (a' := ?_) #[true, false, false, false, false, false, false, false, false, false, false, false, false, false, false, false, false, false, false, false, false, false, false] rfl rfl (by kernel_rfl) (fun _ _ _ h => h) (Or.inl ⟨by rfl, ?_⟩) ?_ ?_
  rotate_left
  · intro w'
    go_simp
    with_reducible rfl
  rotate_left
  · simp only [Act.put, List.setIfInBounds_toArray, List.set_cons_zero, List.set_cons_succ]
    rfl
  refine pure_ (i := 1) (N := some 45) (v := ?_) (a' := ?_) #[true, true, false, false, false, false, false, false, false, false, false, false, false, false, false, false, false, false, false, false, false, false, false] rfl rfl (by kernel_rfl) (fun _ _ _ h => h) (Or.inl ⟨by rfl, ?_⟩) ?_ ?_
  rotate_left
  · intro w'
    go_simp
    with_reducible rfl
  rotate_left
  · simp only [Act.put, List.setIfInBounds_toArray, List.set_cons_zero, List.set_cons_succ]
    rfl
  refine pure_ (i := 2) (N := some 46) (v := ?_) (a' := ?_) #[true, true, true, false, false, false, false, false, false, false, false, false, false, false, false, false, false, false, false, false, false, false, false] rfl rfl (by kernel_rfl) (fun _ _ _ h => h) (Or.inl ⟨by rfl, ?_⟩) ?_ ?_
  rotate_left
  · intro w'
    go_simp
    with_reducible rfl
  rotate_left
  · simp only [Act.put, List.setIfInBounds_toArray, List.set_cons_zero, List.set_cons_succ]
    rfl
  refine pure_ (i := 3) (N := some 47) (v := ?_) (a' := ?_) #[true, true, true, true, false, false, false, false, false, false, false, false, false, false, false, false, false, false, false, false, false, false, false] rfl rfl (by kernel_rfl) (fun _ _ _ h => h) (Or.inl ⟨by rfl, ?_⟩) ?_ ?_
  rotate_left
  · intro w'
    go_simp
    with_reducible rfl
  rotate_left
  · simp only [Act.put, List.setIfInBounds_toArray, List.set_cons_zero, List.set_cons_succ]
    rfl
  refine pure_ (i := 4) (N := some 48) (v := ?_) (a' := ?_) #[true, true, true, true, true, false, false, false, false, false, false, false, false, false, false, false, false, false, false, false, false, false, false] rfl rfl (by kernel_rfl) (fun _ _ _ h => h) (Or.inl ⟨by rfl, ?_⟩) ?_ ?_
  rotate_left
  · intro w'
    go_simp
    with_reducible rfl
  rotate_left
  · simp only [Act.put, List.setIfInBounds_toArray, List.set_cons_zero, List.set_cons_succ]
    rfl
  refine pure_ (i := 5) (N := some 49) (v := ?_) (a' := ?_) #[true, true, true, true, true, true, false, false, false, false, false, false, false, false, false, false, false, false, false, false, false, false, false] rfl rfl (by kernel_rfl) (fun _ _ _ h => h) (Or.inl ⟨by rfl, ?_⟩) ?_ ?_
  rotate_left
  · intro w'
    go_simp
    with_reducible rfl
  rotate_left
  · simp only [Act.put, List.setIfInBounds_toArray, List.set_cons_zero, List.set_cons_succ]
    rfl
  refine pure_ (i := 6) (N := some 50) (v := ?_) (a' := ?_) #[true, true, true, true, true, true, true, false, false, false, false, false, false, false, false, false, false, false, false, false, false, false, false] rfl rfl (by kernel_rfl) (fun _ _ _ h => h) (Or.inl ⟨by rfl, ?_⟩) ?_ ?_
  rotate_left
  · intro w'
    go_simp
    with_reducible rfl
  rotate_left
  · simp only [Act.put, List.setIfInBounds_toArray, List.set_cons_zero, List.set_cons_succ]
    rfl
  refine pure_ (i := 7) (N := some 51) (v := ?_) (a' := ?_) #[true, true, true, true, true, true, true, true, false, false, false, false, false, false, false, false, false, false, false, false, false, false, false] rfl rfl (by kernel_rfl) (fun _ _ _ h => h) (Or.inl ⟨by rfl, ?_⟩) ?_ ?_
  rotate_left
  · intro w'
    go_simp
    with_reducible rfl
  rotate_left
  · simp only [Act.put, List.setIfInBounds_toArray, List.set_cons_zero, List.set_cons_succ]
    rfl
  refine take_ (i := 8) (N := some 52) (v := ?_) (a' := ?_) #[true, true, true, true, true, true, true, true, true, false, false, false, false, false, false, false, false, false, false, false, false, false, false] rfl rfl (by kernel_rfl) (fun _ _ _ h => h) (Or.inl ⟨by rfl, ?_⟩) hHeld ?_ ?_
  rotate_left
  · intro w' s0
    go_simp
    with_reducible rfl
  rotate_left
  · simp only [Act.put, List.setIfInBounds_toArray, List.set_cons_zero, List.set_cons_succ]
    rfl
  refine pure_ (i := 9) (N := some 53) (v := ?_) (a' := ?_) #[true, true, true, true, true, true, true, true, true, true, false, false, false, false, false, false, false, false, false, false, false, false, false] rfl rfl (by kernel_rfl) (fun _ _ _ h => h) (Or.inl ⟨by rfl, ?_⟩) ?_ ?_
  rotate_left
  · intro w'
    go_simp
    with_reducible rfl
  rotate_left
  · simp only [Act.put, List.setIfInBounds_toArray, List.set_cons_zero, List.set_cons_succ]
    rfl
  refine pure_ (i := 11) (N := some 55) (v := ?_) (a' := ?_) #[true, true, true, true, true, true, true, true, true, true, false, true, false, false, false, false, false, false, false, false, false, false, false] rfl rfl (by kernel_rfl) (fun _ _ _ h => h) (Or.inl ⟨by rfl, ?_⟩) ?_ ?_
  rotate_left
  · intro w'
    go_simp
    with_reducible rfl
  rotate_left
  · simp only [Act.put, List.setIfInBounds_toArray, List.set_cons_zero, List.set_cons_succ]
    rfl
  refine pure_ (i := 12) (N := some 56) (v := ?_) (a' := ?_) #[true, true, true, true, true, true, true, true, true, true, false, true, true, false, false, false, false, false, false, false, false, false, false] rfl rfl (by kernel_rfl) (fun _ _ _ h => h) (Or.inl ⟨by rfl, ?_⟩) ?_ ?_
  rotate_left
  · intro w'
    go_simp
    with_reducible rfl
  rotate_left
  · simp only [Act.put, List.setIfInBounds_toArray, List.set_cons_zero, List.set_cons_succ]
    rfl
  refine pure_ (i := 13) (N := some 57) (v := ?_) (a' := ?_) #[true, true, true, true, true, true, true, true, true, true, false, true, true, true, false, false, false, false, false, false, false, false, false] rfl rfl (by kernel_rfl) (fun _ _ _ h => h) (Or.inl ⟨by rfl, ?_⟩) ?_ ?_
  rotate_left
  · intro w'
    go_simp
    with_reducible rfl
  rotate_left
  · simp only [Act.put, List.setIfInBounds_toArray, List.set_cons_zero, List.set_cons_succ]
    rfl
  refine two_ (i := 10) (j := 14) (Ni := some 54) (Nj := none) #[true, true, true, true, true, true, true, true, true, true, true, true, true, true, false, false, false, false, false, false, false, false, false] #[true, true, true, true, true, true, true, true, true, true, false, true, true, true, true, false, false, false, false, false, false, false, false] rfl rfl rfl rfl (by kernel_rfl) (by decide) (by decide) (fun K hK => ?_) (fun K hK => ?_)
  · refine value_ (w1 := (W0.alloc (.cells (madeCells #[.slice none 0 0] b.ports.length) 35))) (v := .slice (some ⟨nb, 0, none⟩) b.ports.length b.ports.length) (by rfl) rfl (by rw [hnb0]; go_simp) ?_
    have NX1 : Hid ((W0.alloc (.cells (madeCells #[.slice none 0 0] b.ports.length) 35)).heap[nb]? = some (.cells (madeCells #[.slice none 0 0] b.ports.length) 35)) := by rw [hnb0]; exact blk_new _ _
    have GX1 : Hid ((W0.alloc (.cells (madeCells #[.slice none 0 0] b.ports.length) 35)).heap[g]? = some (.cells #[.int .i64 b.mode, .int .i64 b.back, .int .i64 b.now, .slice (some ⟨gp, 0, none⟩) b.ports.length b.ports.length, .slice (some ⟨gl, 0, none⟩) b.ports.length b.ports.length, .bool true, .bool true, .int .i64 b.st.f0, .slice Ac b.st.f1.length cc, .slice Ad b.pend.length cd] 78 (0, 0))) := blk_alloc GX0.out _
    have DX1 : Hid ((W0.alloc (.cells (madeCells #[.slice none 0 0] b.ports.length) 35)).heap[w.heap.size]? = some (.cells #[.int .i64 b.st.f0, .slice Ac b.st.f1.length cc, .slice (some ⟨gl, 0, none⟩) b.ports.length b.ports.length, .slice Ad b.pend.length cd] 55 (0, 0))) := blk_alloc DX0.out _
    have OX1 : Hid (Only g w (W0.alloc (.cells (madeCells #[.slice none 0 0] b.ports.length) 35))) := OX0.out.alloc _
    refine hK.out _ _ (blk_at GX1.out 3 rfl) (fun hHeld => ?_)
    clear hK K GX0 DX0 OX0
    generalize (W0.alloc (.cells (madeCells #[.slice none 0 0] b.ports.length) 35)) = W1 at GX1 DX1 OX1 NX1 hHeld ⊢
    refine norm_ (a' := ?_) ?_ ?_
    rotate_left
    · show Act.put _ (some 54) _ = _
      simp only [Act.put, List.setIfInBounds_toArray, List.set_cons_zero, List.set_cons_succ]
      rfl
    refine one_ (i := 14) (N := none) #[true, true, true, true, true, true, true, true, true, true, true, true, true, true, true, false, false, false, false, false, false, false, false] rfl rfl (by kernel_rfl) (by decide) (fun K hK => ?_)
    have x7 : W1.cell? ⟨g, 7, none⟩ = some (.int .i64 b.st.f0) := blk_at GX1.out 7 rfl
    have z7 : W1.frozen? ⟨g, 7, none⟩ = false := blk_frozen GX1.out 7
    have x8 : W1.cell? ⟨g, 8, none⟩ = some (.slice Ac b.st.f1.length cc) := blk_at GX1.out 8 rfl
    have z8 : W1.frozen? ⟨g, 8, none⟩ = false := blk_frozen GX1.out 8
    refine skip_ (w1 := ((W1.setCell ⟨g, 7, none⟩ (.int .i64 0)).setCell ⟨g, 8, none⟩ (.slice none 0 0))) (by rfl) rfl (by go_simp) ?_
    clear x7 z7 x8 z8
    have NX2 : Hid (((W1.setCell ⟨g, 7, none⟩ (.int .i64 0)).setCell ⟨g, 8, none⟩ (.slice none 0 0)).heap[nb]? = some (.cells (madeCells #[.slice none 0 0] b.ports.length) 35)) := blk_far (blk_far (NX1.out) nbg _) nbg _
    have GX2 : Hid (((W1.setCell ⟨g, 7, none⟩ (.int .i64 0)).setCell ⟨g, 8, none⟩ (.slice none 0 0)).heap[g]? = some (.cells #[.int .i64 b.mode, .int .i64 b.back, .int .i64 b.now, .slice (some ⟨gp, 0, none⟩) b.ports.length b.ports.length, .slice (some ⟨gl, 0, none⟩) b.ports.length b.ports.length, .bool true, .bool true, .int .i64 0, .slice none 0 0, .slice Ad b.pend.length cd] 78 (0, 0))) := blk_put (blk_put (GX1.out) 7 _ rfl) 8 _ rfl
    have DX2 : Hid (((W1.setCell ⟨g, 7, none⟩ (.int .i64 0)).setCell ⟨g, 8, none⟩ (.slice none 0 0)).heap[w.heap.size]? = some (.cells #[.int .i64 b.st.f0, .slice Ac b.st.f1.length cc, .slice (some ⟨gl, 0, none⟩) b.ports.length b.ports.length, .slice Ad b.pend.length cd] 55 (0, 0))) := blk_far (blk_far (DX1.out) n2 _) n2 _
    have OX2 : Hid (Only g w ((W1.setCell ⟨g, 7, none⟩ (.int .i64 0)).setCell ⟨g, 8, none⟩ (.slice none 0 0))) := ((OX1.out).set 7 _).set 8 _
    refine hK.out _ _ (blk_at GX2.out 3 rfl) (fun hHeld => ?_)
    clear hK K GX1 DX1 OX1 NX1
    generalize ((W1.setCell ⟨g, 7, none⟩ (.int .i64 0)).setCell ⟨g, 8, none⟩ (.slice none 0 0)) = W2 at GX2 DX2 OX2 NX2 hHeld ⊢
    refine pure_ (i := 15) (N := some 58) (v := ?_) (a' := ?_) #[true, true, true, true, true, true, true, true, true, true, true, true, true, true, true, true, false, false, false, false, false, false, false] rfl rfl (by kernel_rfl) (fun _ _ _ h => h) (Or.inl ⟨by rfl, ?_⟩) ?_ ?_
    rotate_left
    · intro w'
      go_simp
      with_reducible rfl
    rotate_left
    · simp only [Act.put, List.setIfInBounds_toArray, List.set_cons_zero, List.set_cons_succ]
      rfl
    refine pure_ (i := 16) (N := some 59) (v := ?_) (a' := ?_) #[true, true, true, true, true, true, true, true, true, true, true, true, true, true, true, true, true, false, false, false, false, false, false] rfl rfl (by kernel_rfl) (fun _ _ _ h => h) (Or.inl ⟨by rfl, ?_⟩) ?_ ?_
    rotate_left
    · intro w'
      go_simp
      with_reducible rfl
    rotate_left
    · simp only [Act.put, List.setIfInBounds_toArray, List.set_cons_zero, List.set_cons_succ]
      rfl
    refine pure_ (i := 17) (N := some 60) (v := ?_) (a' := ?_) #[true, true, true, true, true, true, true, true, true, true, true, true, true, true, true, true, true, true, false, false, false, false, false] rfl rfl (by kernel_rfl) (fun _ _ _ h => h) (Or.inl ⟨by rfl, ?_⟩) ?_ ?_
    rotate_left
    · intro w'
      go_simp
      with_reducible rfl
    rotate_left
    · simp only [Act.put, List.setIfInBounds_toArray, List.set_cons_zero, List.set_cons_succ]
      rfl
    refine one_ (i := 18) (N := none) #[true, true, true, true, true, true, true, true, true, true, true, true, true, true, true, true, true, true, true, false, false, false, false] rfl rfl (by kernel_rfl) (by decide) (fun K hK => ?_)
    have x9 : W2.cell? ⟨g, 9, none⟩ = some (.slice Ad b.pend.length cd) := blk_at GX2.out 9 rfl
    have z9 : W2.frozen? ⟨g, 9, none⟩ = false := blk_frozen GX2.out 9
    refine skip_ (w1 := (W2.setCell ⟨g, 9, none⟩ (.slice none 0 0))) (by rfl) rfl (by go_simp) ?_
    clear x9 z9
    have NX3 : Hid ((W2.setCell ⟨g, 9, none⟩ (.slice none 0 0)).heap[nb]? = some (.cells (madeCells #[.slice none 0 0] b.ports.length) 35)) := blk_far (NX2.out) nbg _
    have GX3 : Hid ((W2.setCell ⟨g, 9, none⟩ (.slice none 0 0)).heap[g]? = some (.cells #[.int .i64 b.mode, .int .i64 b.back, .int .i64 b.now, .slice (some ⟨gp, 0, none⟩) b.ports.length b.ports.length, .slice (some ⟨gl, 0, none⟩) b.ports.length b.ports.length, .bool true, .bool true, .int .i64 0, .slice none 0 0, .slice none 0 0] 78 (0, 0))) := blk_put (GX2.out) 9 _ rfl
    have DX3 : Hid ((W2.setCell ⟨g, 9, none⟩ (.slice none 0 0)).heap[w.heap.size]? = some (.cells #[.int .i64 b.st.f0, .slice Ac b.st.f1.length cc, .slice (some ⟨gl, 0, none⟩) b.ports.length b.ports.length, .slice Ad b.pend.length cd] 55 (0, 0))) := blk_far (DX2.out) n2 _
    have OX3 : Hid (Only g w (W2.setCell ⟨g, 9, none⟩ (.slice none 0 0))) := (OX2.out).set 9 _
    refine hK.out _ _ (blk_at GX3.out 3 rfl) (fun hHeld => ?_)
    clear hK K GX2 DX2 OX2 NX2
    generalize (W2.setCell ⟨g, 9, none⟩ (.slice none 0 0)) = W3 at GX3 DX3 OX3 NX3 hHeld ⊢
    refine pure_ (i := 19) (N := some 61) (v := ?_) (a' := ?_) #[true, true, true, true, true, true, true, true, true, true, true, true, true, true, true, true, true, true, true, true, false, false, false] rfl rfl (by kernel_rfl) (fun _ _ _ h => h) (Or.inl ⟨by rfl, ?_⟩) ?_ ?_
    rotate_left
    · intro w'
      go_simp
      with_reducible rfl
    rotate_left
    · simp only [Act.put, List.setIfInBounds_toArray, List.set_cons_zero, List.set_cons_succ]
      rfl
    refine pure_ (i := 20) (N := some 62) (v := ?_) (a' := ?_) #[true, true, true, true, true, true, true, true, true, true, true, true, true, true, true, true, true, true, true, true, true, false, false] rfl rfl (by kernel_rfl) (fun _ _ _ h => h) (Or.inl ⟨by rfl, ?_⟩) ?_ ?_
    rotate_left
    · intro w'
      go_simp
      with_reducible rfl
    rotate_left
    · simp only [Act.put, List.setIfInBounds_toArray, List.set_cons_zero, List.set_cons_succ]
      rfl
    refine pure_ (i := 21) (N := some 63) (v := ?_) (a' := ?_) #[true, true, true, true, true, true, true, true, true, true, true, true, true, true, true, true, true, true, true, true, true, true, false] rfl rfl (by kernel_rfl) (fun _ _ _ h => h) (Or.inl ⟨by rfl, ?_⟩) ?_ ?_
    rotate_left
    · intro w'
      go_simp
      with_reducible rfl
    rotate_left
    · simp only [Act.put, List.setIfInBounds_toArray, List.set_cons_zero, List.set_cons_succ]
      rfl
    refine last_ (i := 22) (N := none) #[true, true, true, true, true, true, true, true, true, true, true, true, true, true, true, true, true, true, true, true, true, true, true] rfl rfl (by kernel_rfl) (by decide) (fun K hK => ?_)
    have x4 : W3.cell? ⟨g, 4, none⟩ = some (.slice (some ⟨gl, 0, none⟩) b.ports.length b.ports.length) := blk_at GX3.out 4 rfl
    have z4 : W3.frozen? ⟨g, 4, none⟩ = false := blk_frozen GX3.out 4
    refine skip_ (w1 := (W3.setCell ⟨g, 4, none⟩ (.slice (some ⟨nb, 0, none⟩) b.ports.length b.ports.length))) (by rfl) rfl (by go_simp) ?_
    clear x4 z4
    have NX4 : Hid ((W3.setCell ⟨g, 4, none⟩ (.slice (some ⟨nb, 0, none⟩) b.ports.length b.ports.length)).heap[nb]? = some (.cells (madeCells #[.slice none 0 0] b.ports.length) 35)) := blk_far (NX3.out) nbg _
    have GX4 : Hid ((W3.setCell ⟨g, 4, none⟩ (.slice (some ⟨nb, 0, none⟩) b.ports.length b.ports.length)).heap[g]? = some (.cells #[.int .i64 b.mode, .int .i64 b.back, .int .i64 b.now, .slice (some ⟨gp, 0, none⟩) b.ports.length b.ports.length, .slice (some ⟨nb, 0, none⟩) b.ports.length b.ports.length, .bool true, .bool true, .int .i64 0, .slice none 0 0, .slice none 0 0] 78 (0, 0))) := blk_put (GX3.out) 4 _ rfl
    have DX4 : Hid ((W3.setCell ⟨g, 4, none⟩ (.slice (some ⟨nb, 0, none⟩) b.ports.length b.ports.length)).heap[w.heap.size]? = some (.cells #[.int .i64 b.st.f0, .slice Ac b.st.f1.length cc, .slice (some ⟨gl, 0, none⟩) b.ports.length b.ports.length, .slice Ad b.pend.length cd] 55 (0, 0))) := blk_far (DX3.out) n2 _
    have OX4 : Hid (Only g w (W3.setCell ⟨g, 4, none⟩ (.slice (some ⟨nb, 0, none⟩) b.ports.length b.ports.length))) := (OX3.out).set 4 _
    refine hK.out _ _ ?_
    clear hK K GX3 DX3 OX3 NX3
    generalize (W3.setCell ⟨g, 4, none⟩ (.slice (some ⟨nb, 0, none⟩) b.ports.length b.ports.length)) = W4 at GX4 DX4 OX4 NX4 ⊢
    refine done_ (by kernel_rfl) ?_
    clear hHeld
    go_wp2
    refine start_ (n := 8) (S := (fun w' => w'.cell? ⟨g, 2, none⟩ = some (.int .i64 b.now) ∧ w'.cell? ⟨w.heap.size, 0, none⟩ = some (.int .i64 b.st.f0) ∧ w'.cell? ⟨w.heap.size, 1, none⟩ = some (.slice Ac b.st.f1.length cc) ∧ w'.cell? ⟨w.heap.size, 2, none⟩ = some (.slice (some ⟨gl, 0, none⟩) b.ports.length b.ports.length) ∧ w'.cell? ⟨w.heap.size, 3, none⟩ = some (.slice Ad b.pend.length cd))) (ds := [6]) #[false, false, false, false, false, false, false, false] (by kernel_rfl) rfl rfl ⟨blk_at GX4.out 2 rfl, blk_at DX4.out 0 rfl, blk_at DX4.out 1 rfl, blk_at DX4.out 2 rfl, blk_at DX4.out 3 rfl⟩ (fun hHeld => ?_)
    have GY : Hid (W4.drew.heap[g]? = some (.cells #[.int .i64 b.mode, .int .i64 b.back, .int .i64 b.now, .slice (some ⟨gp, 0, none⟩) b.ports.length b.ports.length, .slice (some ⟨nb, 0, none⟩) b.ports.length b.ports.length, .bool true, .bool true, .int .i64 0, .slice none 0 0, .slice none 0 0] 78 (0, 0))) := GX4.out
    have DY : Hid (W4.drew.heap[w.heap.size]? = some (.cells #[.int .i64 b.st.f0, .slice Ac b.st.f1.length cc, .slice (some ⟨gl, 0, none⟩) b.ports.length b.ports.length, .slice Ad b.pend.length cd] 55 (0, 0))) := DX4.out
    have OY : Hid (Only g w W4.drew) := OX4.out.drew
    have NY : Hid (W4.drew.heap[nb]? = some (.cells (madeCells #[.slice none 0 0] b.ports.length) 35)) := NX4.out
    clear GX4 DX4 OX4 NX4
    generalize W4.drew = W at hHeld GY DY OY NY ⊢
    refine pure_ (i := 0) (N := some 64) (v := ?_) (a' := ?_) #[true, false, false, false, false, false, false, false] rfl rfl (by kernel_rfl) (fun _ _ _ h => h) (Or.inl ⟨by rfl, ?_⟩) ?_ ?_
    rotate_left
    · intro w'
      go_simp
      with_reducible rfl
    rotate_left
    · simp only [Act.put, List.setIfInBounds_toArray, List.set_cons_zero, List.set_cons_succ]
      rfl
    refine pure_ (i := 1) (N := some 65) (v := ?_) (a' := ?_) #[true, true, false, false, false, false, false, false] rfl rfl (by kernel_rfl) (fun _ _ _ h => h) (Or.inl ⟨by rfl, ?_⟩) ?_ ?_
    rotate_left
    · intro w'
      go_simp
      with_reducible rfl
    rotate_left
    · simp only [Act.put, List.setIfInBounds_toArray, List.set_cons_zero, List.set_cons_succ]
      rfl
    refine pure_ (i := 2) (N := some 66) (v := ?_) (a' := ?_) #[true, true, true, false, false, false, false, false] rfl rfl (by kernel_rfl) (fun _ _ _ h => h) (Or.inl ⟨by rfl, ?_⟩) ?_ ?_
    rotate_left
    · intro w'
      go_simp
      with_reducible rfl
    rotate_left
    · simp only [Act.put, List.setIfInBounds_toArray, List.set_cons_zero, List.set_cons_succ]
      rfl
    refine take_ (i := 3) (N := some 67) (v := ?_) (a' := ?_) #[true, true, true, true, false, false, false, false] rfl rfl (by kernel_rfl) (fun _ _ _ h => h) (Or.inl ⟨by rfl, ?_⟩) hHeld ?_ ?_
    rotate_left
    · rintro w' ⟨s0, s1, s2, s3, s4⟩
      go_simp
      with_reducible rfl
    rotate_left
    · simp only [Act.put, List.setIfInBounds_toArray, List.set_cons_zero, List.set_cons_succ]
      rfl
    refine take_ (i := 4) (N := some 68) (v := ?_) (a' := ?_) #[true, true, true, true, true, false, false, false] rfl rfl (by kernel_rfl) (fun _ _ _ h => h) (Or.inl ⟨by rfl, ?_⟩) hHeld ?_ ?_
    rotate_left
    · rintro w' ⟨s0, s1, s2, s3, s4⟩
      go_simp
      with_reducible rfl
    rotate_left
    · simp only [Act.put, List.setIfInBounds_toArray, List.set_cons_zero, List.set_cons_succ]
      rfl
    refine pure_ (i := 5) (N := some 2) (v := ?_) (a' := ?_) #[true, true, true, true, true, true, false, false] rfl rfl (by kernel_rfl) (fun _ _ _ h => h) (Or.inl ⟨by rfl, ?_⟩) ?_ ?_
    rotate_left
    · intro w'
      go_simp
      with_reducible rfl
    rotate_left
    · simp only [Act.put, List.setIfInBounds_toArray, List.set_cons_zero, List.set_cons_succ]
      rfl
    refine last_ (i := 6) (N := none) #[true, true, true, true, true, true, true, false] rfl rfl (by kernel_rfl) (by decide) (fun K hK => ?_)
    have y0 : W.cell? ⟨w.heap.size, 0, none⟩ = some (.int .i64 b.st.f0) := blk_at DY.out 0 rfl
    have z0 : W.frozen? ⟨w.heap.size, 0, none⟩ = false := blk_frozen DY.out 0
    have y1 : W.cell? ⟨w.heap.size, 1, none⟩ = some (.slice Ac b.st.f1.length cc) := blk_at DY.out 1 rfl
    have z1 : W.frozen? ⟨w.heap.size, 1, none⟩ = false := blk_frozen DY.out 1
    have y2 : W.cell? ⟨w.heap.size, 2, none⟩ = some (.slice (some ⟨gl, 0, none⟩) b.ports.length b.ports.length) := blk_at DY.out 2 rfl
    have z2 : W.frozen? ⟨w.heap.size, 2, none⟩ = false := blk_frozen DY.out 2
    have y3 : W.cell? ⟨w.heap.size, 3, none⟩ = some (.slice Ad b.pend.length cd) := blk_at DY.out 3 rfl
    have z3 : W.frozen? ⟨w.heap.size, 3, none⟩ = false := blk_frozen DY.out 3
    refine skip_ (w1 := ((((W.setCell ⟨w.heap.size, 0, none⟩ (.int .i64 b.st.f0)).setCell ⟨w.heap.size, 1, none⟩ (.slice Ac b.st.f1.length cc)).setCell ⟨w.heap.size, 2, none⟩ (.slice (some ⟨gl, 0, none⟩) b.ports.length b.ports.length)).setCell ⟨w.heap.size, 3, none⟩ (.slice Ad b.pend.length cd))) (by rfl) rfl (by go_simp) ?_
    refine hK.out _ _ ?_
    clear hK K y0 z0 y1 z1 y2 z2 y3 z3
    refine pure_ (i := 7) (N := some 4) (v := ?_) (a' := ?_) #[true, true, true, true, true, true, true, true] rfl rfl (by kernel_rfl) (fun _ _ _ h => h) (Or.inl ⟨by rfl, ?_⟩) ?_ ?_
    rotate_left
    · intro w'
      go_simp
      with_reducible rfl
    rotate_left
    · simp only [Act.put, List.setIfInBounds_toArray, List.set_cons_zero, List.set_cons_succ]
      rfl
    refine done_ (by kernel_rfl) ?_
    have DZ : Hid (((((W.setCell ⟨w.heap.size, 0, none⟩ (.int .i64 b.st.f0)).setCell ⟨w.heap.size, 1, none⟩ (.slice Ac b.st.f1.length cc)).setCell ⟨w.heap.size, 2, none⟩ (.slice (some ⟨gl, 0, none⟩) b.ports.length b.ports.length)).setCell ⟨w.heap.size, 3, none⟩ (.slice Ad b.pend.length cd)).heap[w.heap.size]? = some (.cells #[.int .i64 b.st.f0, .slice Ac b.st.f1.length cc, .slice (some ⟨gl, 0, none⟩) b.ports.length b.ports.length, .slice Ad b.pend.length cd] 55 (0, 0))) := blk_put (blk_put (blk_put (blk_put (DY.out) 0 _ rfl) 1 _ rfl) 2 _ rfl) 3 _ rfl
    have GZ : Hid (((((W.setCell ⟨w.heap.size, 0, none⟩ (.int .i64 b.st.f0)).setCell ⟨w.heap.size, 1, none⟩ (.slice Ac b.st.f1.length cc)).setCell ⟨w.heap.size, 2, none⟩ (.slice (some ⟨gl, 0, none⟩) b.ports.length b.ports.length)).setCell ⟨w.heap.size, 3, none⟩ (.slice Ad b.pend.length cd)).heap[g]? = some (.cells #[.int .i64 b.mode, .int .i64 b.back, .int .i64 b.now, .slice (some ⟨gp, 0, none⟩) b.ports.length b.ports.length, .slice (some ⟨nb, 0, none⟩) b.ports.length b.ports.length, .bool true, .bool true, .int .i64 0, .slice none 0 0, .slice none 0 0] 78 (0, 0))) := blk_far (blk_far (blk_far (blk_far (GY.out) n1 _) n1 _) n1 _) n1 _
    have OZ : Hid (Only g w ((((W.setCell ⟨w.heap.size, 0, none⟩ (.int .i64 b.st.f0)).setCell ⟨w.heap.size, 1, none⟩ (.slice Ac b.st.f1.length cc)).setCell ⟨w.heap.size, 2, none⟩ (.slice (some ⟨gl, 0, none⟩) b.ports.length b.ports.length)).setCell ⟨w.heap.size, 3, none⟩ (.slice Ad b.pend.length cd))) := ((((OY.out).setFar (Nat.le_refl _) _).setFar (Nat.le_refl _) _).setFar (Nat.le_refl _) _).setFar (Nat.le_refl _) _
    have NZ : Hid (((((W.setCell ⟨w.heap.size, 0, none⟩ (.int .i64 b.st.f0)).setCell ⟨w.heap.size, 1, none⟩ (.slice Ac b.st.f1.length cc)).setCell ⟨w.heap.size, 2, none⟩ (.slice (some ⟨gl, 0, none⟩) b.ports.length b.ports.length)).setCell ⟨w.heap.size, 3, none⟩ (.slice Ad b.pend.length cd)).heap[nb]? = some (.cells (madeCells #[.slice none 0 0] b.ports.length) 35)) := blk_far (blk_far (blk_far (blk_far (NY.out) nb2 _) nb2 _) nb2 _) nb2 _
    clear hHeld DY GY OY NY
    generalize ((((W.setCell ⟨w.heap.size, 0, none⟩ (.int .i64 b.st.f0)).setCell ⟨w.heap.size, 1, none⟩ (.slice Ac b.st.f1.length cc)).setCell ⟨w.heap.size, 2, none⟩ (.slice (some ⟨gl, 0, none⟩) b.ports.length b.ports.length)).setCell ⟨w.heap.size, 3, none⟩ (.slice Ad b.pend.length cd)) = W at DZ GZ OZ NZ ⊢
    go_wp2
    refine bodyPost_ret (results_list (rs := [.tmp 2, .cell 3 55, .tmp 4]) (vs := [.int .i64 b.now, .agg #[.int .i64 b.st.f0, .slice Ac b.st.f1.length cc, .slice (some ⟨gl, 0, none⟩) b.ports.length b.ports.length, .slice Ad b.pend.length cd], .bool true]) rfl (by simp) (.tmp (.cell w.heap.size 55 #[.int .i64 b.st.f0, .slice Ac b.st.f1.length cc, .slice (some ⟨gl, 0, none⟩) b.ports.length b.ports.length, .slice Ad b.pend.length cd] (0, 0) _ rfl DZ.out Try.underlying55 rfl (by kernel_rfl) (.tmp .nil)))) rfl ?_
    exact H.out.handing Hrdy.out GZ.out OZ.out NZ.out nb1 rfl
  · have x7 : W0.cell? ⟨g, 7, none⟩ = some (.int .i64 b.st.f0) := blk_at GX0.out 7 rfl
    have z7 : W0.frozen? ⟨g, 7, none⟩ = false := blk_frozen GX0.out 7
    have x8 : W0.cell? ⟨g, 8, none⟩ = some (.slice Ac b.st.f1.length cc) := blk_at GX0.out 8 rfl
    have z8 : W0.frozen? ⟨g, 8, none⟩ = false := blk_frozen GX0.out 8
    refine skip_ (w1 := ((W0.setCell ⟨g, 7, none⟩ (.int .i64 0)).setCell ⟨g, 8, none⟩ (.slice none 0 0))) (by rfl) rfl (by go_simp) ?_
    clear x7 z7 x8 z8
    have hnb1 : nb = ((W0.setCell ⟨g, 7, none⟩ (.int .i64 0)).setCell ⟨g, 8, none⟩ (.slice none 0 0)).heap.size := by simp only [World.size_setCell]; exact hnb0
    have GX1 : Hid (((W0.setCell ⟨g, 7, none⟩ (.int .i64 0)).setCell ⟨g, 8, none⟩ (.slice none 0 0)).heap[g]? = some (.cells #[.int .i64 b.mode, .int .i64 b.back, .int .i64 b.now, .slice (some ⟨gp, 0, none⟩) b.ports.length b.ports.length, .slice (some ⟨gl, 0, none⟩) b.ports.length b.ports.length, .bool true, .bool true, .int .i64 0, .slice none 0 0, .slice Ad b.pend.length cd] 78 (0, 0))) := blk_put (blk_put (GX0.out) 7 _ rfl) 8 _ rfl
    have DX1 : Hid (((W0.setCell ⟨g, 7, none⟩ (.int .i64 0)).setCell ⟨g, 8, none⟩ (.slice none 0 0)).heap[w.heap.size]? = some (.cells #[.int .i64 b.st.f0, .slice Ac b.st.f1.length cc, .slice (some ⟨gl, 0, none⟩) b.ports.length b.ports.length, .slice Ad b.pend.length cd] 55 (0, 0))) := blk_far (blk_far (DX0.out) n2 _) n2 _
    have OX1 : Hid (Only g w ((W0.setCell ⟨g, 7, none⟩ (.int .i64 0)).setCell ⟨g, 8, none⟩ (.slice none 0 0))) := ((OX0.out).set 7 _).set 8 _
    refine hK.out _ _ (blk_at GX1.out 3 rfl) (fun hHeld => ?_)
    clear hK K GX0 DX0 OX0
    generalize ((W0.setCell ⟨g, 7, none⟩ (.int .i64 0)).setCell ⟨g, 8, none⟩ (.slice none 0 0)) = W1 at GX1 DX1 OX1 hnb1 hHeld ⊢
    refine pure_ (i := 15) (N := some 58) (v := ?_) (a' := ?_) #[true, true, true, true, true, true, true, true, true, true, false, true, true, true, true, true, false, false, false, false, false, false, false] rfl rfl (by kernel_rfl) (fun _ _ _ h => h) (Or.inl ⟨by rfl, ?_⟩) ?_ ?_
    rotate_left
    · intro w'
      go_simp
      with_reducible rfl
    rotate_left
    · simp only [Act.put, List.setIfInBounds_toArray, List.set_cons_zero, List.set_cons_succ]
      rfl
    refine pure_ (i := 16) (N := some 59) (v := ?_) (a' := ?_) #[true, true, true, true, true, true, true, true, true, true, false, true, true, true, true, true, true, false, false, false, false, false, false] rfl rfl (by kernel_rfl) (fun _ _ _ h => h) (Or.inl ⟨by rfl, ?_⟩) ?_ ?_
    rotate_left
    · intro w'
      go_simp
      with_reducible rfl
    rotate_left
    · simp only [Act.put, List.setIfInBounds_toArray, List.set_cons_zero, List.set_cons_succ]
      rfl
    refine pure_ (i := 17) (N := some 60) (v := ?_) (a' := ?_) #[true, true, true, true, true, true, true, true, true, true, false, true, true, true, true, true, true, true, false, false, false, false, false] rfl rfl (by kernel_rfl) (fun _ _ _ h => h) (Or.inl ⟨by rfl, ?_⟩) ?_ ?_
    rotate_left
    · intro w'
      go_simp
      with_reducible rfl
    rotate_left
    · simp only [Act.put, List.setIfInBounds_toArray, List.set_cons_zero, List.set_cons_succ]
      rfl
    refine two_ (i := 10) (j := 18) (Ni := some 54) (Nj := none) #[true, true, true, true, true, true, true, true, true, true, true, true, true, true, true, true, true, true, false, false, false, false, false] #[true, true, true, true, true, true, true, true, true, true, false, true, true, true, true, true, true, true, true, false, false, false, false] rfl rfl rfl rfl (by kernel_rfl) (by decide) (by decide) (fun K hK => ?_) (fun K hK => ?_)
    · refine value_ (w1 := (W1.alloc (.cells (madeCells #[.slice none 0 0] b.ports.length) 35))) (v := .slice (some ⟨nb, 0, none⟩) b.ports.length b.ports.length) (by rfl) rfl (by rw [hnb1]; go_simp) ?_
      have NX2 : Hid ((W1.alloc (.cells (madeCells #[.slice none 0 0] b.ports.length) 35)).heap[nb]? = some (.cells (madeCells #[.slice none 0 0] b.ports.length) 35)) := by rw [hnb1]; exact blk_new _ _
      have GX2 : Hid ((W1.alloc (.cells (madeCells #[.slice none 0 0] b.ports.length) 35)).heap[g]? = some (.cells #[.int .i64 b.mode, .int .i64 b.back, .int .i64 b.now, .slice (some ⟨gp, 0, none⟩) b.ports.length b.ports.length, .slice (some ⟨gl, 0, none⟩) b.ports.length b.ports.length, .bool true, .bool true, .int .i64 0, .slice none 0 0, .slice Ad b.pend.length cd] 78 (0, 0))) := blk_alloc GX1.out _
      have DX2 : Hid ((W1.alloc (.cells (madeCells #[.slice none 0 0] b.ports.length) 35)).heap[w.heap.size]? = some (.cells #[.int .i64 b.st.f0, .slice Ac b.st.f1.length cc, .slice (some ⟨gl, 0, none⟩) b.ports.length b.ports.length, .slice Ad b.pend.length cd] 55 (0, 0))) := blk_alloc DX1.out _
      have OX2 : Hid (Only g w (W1.alloc (.cells (madeCells #[.slice none 0 0] b.ports.length) 35))) := OX1.out.alloc _
      refine hK.out _ _ (blk_at GX2.out 3 rfl) (fun hHeld => ?_)
      clear hK K GX1 DX1 OX1
      generalize (W1.alloc (.cells (madeCells #[.slice none 0 0] b.ports.length) 35)) = W2 at GX2 DX2 OX2 NX2 hHeld ⊢
      refine norm_ (a' := ?_) ?_ ?_
      rotate_left
      · show Act.put _ (some 54) _ = _
        simp only [Act.put, List.setIfInBounds_toArray, List.set_cons_zero, List.set_cons_succ]
        rfl
      refine one_ (i := 18) (N := none) #[true, true, true, true, true, true, true, true, true, true, true, true, true, true, true, true, true, true, true, false, false, false, false] rfl rfl (by kernel_rfl) (by decide) (fun K hK => ?_)
      have x9 : W2.cell? ⟨g, 9, none⟩ = some (.slice Ad b.pend.length cd) := blk_at GX2.out 9 rfl
      have z9 : W2.frozen? ⟨g, 9, none⟩ = false := blk_frozen GX2.out 9
      refine skip_ (w1 := (W2.setCell ⟨g, 9, none⟩ (.slice none 0 0))) (by rfl) rfl (by go_simp) ?_
      clear x9 z9
      have NX3 : Hid ((W2.setCell ⟨g, 9, none⟩ (.slice none 0 0)).heap[nb]? = some (.cells (madeCells #[.slice none 0 0] b.ports.length) 35)) := blk_far (NX2.out) nbg _
      have GX3 : Hid ((W2.setCell ⟨g, 9, none⟩ (.slice none 0 0)).heap[g]? = some (.cells #[.int .i64 b.mode, .int .i64 b.back, .int .i64 b.now, .slice (some ⟨gp, 0, none⟩) b.ports.length b.ports.length, .slice (some ⟨gl, 0, none⟩) b.ports.length b.ports.length, .bool true, .bool true, .int .i64 0, .slice none 0 0, .slice none 0 0] 78 (0, 0))) := blk_put (GX2.out) 9 _ rfl
      have DX3 : Hid ((W2.setCell ⟨g, 9, none⟩ (.slice none 0 0)).heap[w.heap.size]? = some (.cells #[.int .i64 b.st.f0, .slice Ac b.st.f1.length cc, .slice (some ⟨gl, 0, none⟩) b.ports.length b.ports.length, .slice Ad b.pend.length cd] 55 (0, 0))) := blk_far (DX2.out) n2 _
      have OX3 : Hid (Only g w (W2.setCell ⟨g, 9, none⟩ (.slice none 0 0))) := (OX2.out).set 9 _
      refine hK.out _ _ (blk_at GX3.out 3 rfl) (fun hHeld => ?_)
      clear hK K GX2 DX2 OX2 NX2
      generalize (W2.setCell ⟨g, 9, none⟩ (.slice none 0 0)) = W3 at GX3 DX3 OX3 NX3 hHeld ⊢
      refine pure_ (i := 19) (N := some 61) (v := ?_) (a' := ?_) #[true, true, true, true, true, true, true, true, true, true, true, true, true, true, true, true, true, true, true, true, false, false, false] rfl rfl (by kernel_rfl) (fun _ _ _ h => h) (Or.inl ⟨by rfl, ?_⟩) ?_ ?_
      rotate_left
      · intro w'
        go_simp
        with_reducible rfl
      rotate_left
      · simp only [Act.put, List.setIfInBounds_toArray, List.set_cons_zero, List.set_cons_succ]
        rfl
      refine pure_ (i := 20) (N := some 62) (v := ?_) (a' := ?_) #[true, true, true, true, true, true, true, true, true, true, true, true, true, true, true, true, true, true, true, true, true, false, false] rfl rfl (by kernel_rfl) (fun _ _ _ h => h) (Or.inl ⟨by rfl, ?_⟩) ?_ ?_
      rotate_left
      · intro w'
        go_simp
        with_reducible rfl
      rotate_left
      · simp only [Act.put, List.setIfInBounds_toArray, List.set_cons_zero, List.set_cons_succ]
        rfl
      refine pure_ (i := 21) (N := some 63) (v := ?_) (a' := ?_) #[true, true, true, true, true, true, true, true, true, true, true, true, true, true, true, true, true, true, true, true, true, true, false] rfl rfl (by kernel_rfl) (fun _ _ _ h => h) (Or.inl ⟨by rfl, ?_⟩) ?_ ?_
      rotate_left
      · intro w'
        go_simp
        with_reducible rfl
      rotate_left
      · simp only [Act.put, List.setIfInBounds_toArray, List.set_cons_zero, List.set_cons_succ]
        rfl
      refine last_ (i := 22) (N := none) #[true, true, true, true, true, true, true, true, true, true, true, true, true, true, true, true, true, true, true, true, true, true, true] rfl rfl (by kernel_rfl) (by decide) (fun K hK => ?_)
      have x4 : W3.cell? ⟨g, 4, none⟩ = some (.slice (some ⟨gl, 0, none⟩) b.ports.length b.ports.length) := blk_at GX3.out 4 rfl
      have z4 : W3.frozen? ⟨g, 4, none⟩ = false := blk_frozen GX3.out 4
      refine skip_ (w1 := (W3.setCell ⟨g, 4, none⟩ (.slice (some ⟨nb, 0, none⟩) b.ports.length b.ports.length))) (by rfl) rfl (by go_simp) ?_
      clear x4 z4
      have NX4 : Hid ((W3.setCell ⟨g, 4, none⟩ (.slice (some ⟨nb, 0, none⟩) b.ports.length b.ports.length)).heap[nb]? = some (.cells (madeCells #[.slice none 0 0] b.ports.length) 35)) := blk_far (NX3.out) nbg _
      have GX4 : Hid ((W3.setCell ⟨g, 4, none⟩ (.slice (some ⟨nb, 0, none⟩) b.ports.length b.ports.length)).heap[g]? = some (.cells #[.int .i64 b.mode, .int .i64 b.back, .int .i64 b.now, .slice (some ⟨gp, 0, none⟩) b.ports.length b.ports.length, .slice (some ⟨nb, 0, none⟩) b.ports.length b.ports.length, .bool true, .bool true, .int .i64 0, .slice none 0 0, .slice none 0 0] 78 (0, 0))) := blk_put (GX3.out) 4 _ rfl
      have DX4 : Hid ((W3.setCell ⟨g, 4, none⟩ (.slice (some ⟨nb, 0, none⟩) b.ports.length b.ports.length)).heap[w.heap.size]? = some (.cells #[.int .i64 b.st.f0, .slice Ac b.st.f1.length cc, .slice (some ⟨gl, 0, none⟩) b.ports.length b.ports.length, .slice Ad b.pend.length cd] 55 (0, 0))) := blk_far (DX3.out) n2 _
      have OX4 : Hid (Only g w (W3.setCell ⟨g, 4, none⟩ (.slice (some ⟨nb, 0, none⟩) b.ports.length b.ports.length))) := (OX3.out).set 4 _
      refine hK.out _ _ ?_
      clear hK K GX3 DX3 OX3 NX3
      generalize (W3.setCell ⟨g, 4, none⟩ (.slice (some ⟨nb, 0, none⟩) b.ports.length b.ports.length)) = W4 at GX4 DX4 OX4 NX4 ⊢
      refine done_ (by kernel_rfl) ?_
      clear hHeld
      go_wp2
      refine start_ (n := 8) (S := (fun w' => w'.cell? ⟨g, 2, none⟩ = some (.int .i64 b.now) ∧ w'.cell? ⟨w.heap.size, 0, none⟩ = some (.int .i64 b.st.f0) ∧ w'.cell? ⟨w.heap.size, 1, none⟩ = some (.slice Ac b.st.f1.length cc) ∧ w'.cell? ⟨w.heap.size, 2, none⟩ = some (.slice (some ⟨gl, 0, none⟩) b.ports.length b.ports.length) ∧ w'.cell? ⟨w.heap.size, 3, none⟩ = some (.slice Ad b.pend.length cd))) (ds := [6]) #[false, false, false, false, false, false, false, false] (by kernel_rfl) rfl rfl ⟨blk_at GX4.out 2 rfl, blk_at DX4.out 0 rfl, blk_at DX4.out 1 rfl, blk_at DX4.out 2 rfl, blk_at DX4.out 3 rfl⟩ (fun hHeld => ?_)
      have GY : Hid (W4.drew.heap[g]? = some (.cells #[.int .i64 b.mode, .int .i64 b.back, .int .i64 b.now, .slice (some ⟨gp, 0, none⟩) b.ports.length b.ports.length, .slice (some ⟨nb, 0, none⟩) b.ports.length b.ports.length, .bool true, .bool true, .int .i64 0, .slice none 0 0, .slice none 0 0] 78 (0, 0))) := GX4.out
      have DY : Hid (W4.drew.heap[w.heap.size]? = some (.cells #[.int .i64 b.st.f0, .slice Ac b.st.f1.length cc, .slice (some ⟨gl, 0, none⟩) b.ports.length b.ports.length, .slice Ad b.pend.length cd] 55 (0, 0))) := DX4.out
      have OY : Hid (Only g w W4.drew) := OX4.out.drew
      have NY : Hid (W4.drew.heap[nb]? = some (.cells (madeCells #[.slice none 0 0] b.ports.length) 35)) := NX4.out
      clear GX4 DX4 OX4 NX4
      generalize W4.drew = W at hHeld GY DY OY NY ⊢
      refine pure_ (i := 0) (N := some 64) (v := ?_) (a' := ?_) #[true, false, false, false, false, false, false, false] rfl rfl (by kernel_rfl) (fun _ _ _ h => h) (Or.inl ⟨by rfl, ?_⟩) ?_ ?_
      rotate_left
      · intro w'
        go_simp
        with_reducible rfl
      rotate_left
      · simp only [Act.put, List.setIfInBounds_toArray, List.set_cons_zero, List.set_cons_succ]
        rfl
      refine pure_ (i := 1) (N := some 65) (v := ?_) (a' := ?_) #[true, true, false, false, false, false, false, false] rfl rfl (by kernel_rfl) (fun _ _ _ h => h) (Or.inl ⟨by rfl, ?_⟩) ?_ ?_
      rotate_left
      · intro w'
        go_simp
        with_reducible rfl
      rotate_left
      · simp only [Act.put, List.setIfInBounds_toArray, List.set_cons_zero, List.set_cons_succ]
        rfl
      refine pure_ (i := 2) (N := some 66) (v := ?_) (a' := ?_) #[true, true, true, false, false, false, false, false] rfl rfl (by kernel_rfl) (fun _ _ _ h => h) (Or.inl ⟨by rfl, ?_⟩) ?_ ?_
      rotate_left
      · intro w'
        go_simp
        with_reducible rfl
      rotate_left
      · simp only [Act.put, List.setIfInBounds_toArray, List.set_cons_zero, List.set_cons_succ]
        rfl
      refine take_ (i := 3) (N := some 67) (v := ?_) (a' := ?_) #[true, true, true, true, false, false, false, false] rfl rfl (by kernel_rfl) (fun _ _ _ h => h) (Or.inl ⟨by rfl, ?_⟩) hHeld ?_ ?_
      rotate_left
      · rintro w' ⟨s0, s1, s2, s3, s4⟩
        go_simp
        with_reducible rfl
      rotate_left
      · simp only [Act.put, List.setIfInBounds_toArray, List.set_cons_zero, List.set_cons_succ]
        rfl
      refine take_ (i := 4) (N := some 68) (v := ?_) (a' := ?_) #[true, true, true, true, true, false, false, false] rfl rfl (by kernel_rfl) (fun _ _ _ h => h) (Or.inl ⟨by rfl, ?_⟩) hHeld ?_ ?_
      rotate_left
      · rintro w' ⟨s0, s1, s2, s3, s4⟩
        go_simp
        with_reducible rfl
      rotate_left
      · simp only [Act.put, List.setIfInBounds_toArray, List.set_cons_zero, List.set_cons_succ]
        rfl
      refine pure_ (i := 5) (N := some 2) (v := ?_) (a' := ?_) #[true, true, true, true, true, true, false, false] rfl rfl (by kernel_rfl) (fun _ _ _ h => h) (Or.inl ⟨by rfl, ?_⟩) ?_ ?_
      rotate_left
      · intro w'
        go_simp
        with_reducible rfl
      rotate_left
      · simp only [Act.put, List.setIfInBounds_toArray, List.set_cons_zero, List.set_cons_succ]
        rfl
      refine last_ (i := 6) (N := none) #[true, true, true, true, true, true, true, false] rfl rfl (by kernel_rfl) (by decide) (fun K hK => ?_)
      have y0 : W.cell? ⟨w.heap.size, 0, none⟩ = some (.int .i64 b.st.f0) := blk_at DY.out 0 rfl
      have z0 : W.frozen? ⟨w.heap.size, 0, none⟩ = false := blk_frozen DY.out 0
      have y1 : W.cell? ⟨w.heap.size, 1, none⟩ = some (.slice Ac b.st.f1.length cc) := blk_at DY.out 1 rfl
      have z1 : W.frozen? ⟨w.heap.size, 1, none⟩ = false := blk_frozen DY.out 1
      have y2 : W.cell? ⟨w.heap.size, 2, none⟩ = some (.slice (some ⟨gl, 0, none⟩) b.ports.length b.ports.length) := blk_at DY.out 2 rfl
      have z2 : W.frozen? ⟨w.heap.size, 2, none⟩ = false := blk_frozen DY.out 2
      have y3 : W.cell? ⟨w.heap.size, 3, none⟩ = some (.slice Ad b.pend.length cd) := blk_at DY.out 3 rfl
      have z3 : W.frozen? ⟨w.heap.size, 3, none⟩ = false := blk_frozen DY.out 3
      refine skip_ (w1 := ((((W.setCell ⟨w.heap.size, 0, none⟩ (.int .i64 b.st.f0)).setCell ⟨w.heap.size, 1, none⟩ (.slice Ac b.st.f1.length cc)).setCell ⟨w.heap.size, 2, none⟩ (.slice (some ⟨gl, 0, none⟩) b.ports.length b.ports.length)).setCell ⟨w.heap.size, 3, none⟩ (.slice Ad b.pend.length cd))) (by rfl) rfl (by go_simp) ?_
      refine hK.out _ _ ?_
      clear hK K y0 z0 y1 z1 y2 z2 y3 z3
      refine pure_ (i := 7) (N := some 4) (v := ?_) (a' := ?_) #[true, true, true, true, true, true, true, true] rfl rfl (by kernel_rfl) (fun _ _ _ h => h) (Or.inl ⟨by rfl, ?_⟩) ?_ ?_
      rotate_left
      · intro w'
        go_simp
        with_reducible rfl
      rotate_left
      · simp only [Act.put, List.setIfInBounds_toArray, List.set_cons_zero, List.set_cons_succ]
        rfl
      refine done_ (by kernel_rfl) ?_
      have DZ : Hid (((((W.setCell ⟨w.heap.size, 0, none⟩ (.int .i64 b.st.f0)).setCell ⟨w.heap.size, 1, none⟩ (.slice Ac b.st.f1.length cc)).setCell ⟨w.heap.size, 2, none⟩ (.slice (some ⟨gl, 0, none⟩) b.ports.length b.ports.length)).setCell ⟨w.heap.size, 3, none⟩ (.slice Ad b.pend.length cd)).heap[w.heap.size]? = some (.cells #[.int .i64 b.st.f0, .slice Ac b.st.f1.length cc, .slice (some ⟨gl, 0, none⟩) b.ports.length b.ports.length, .slice Ad b.pend.length cd] 55 (0, 0))) := blk_put (blk_put (blk_put (blk_put (DY.out) 0 _ rfl) 1 _ rfl) 2 _ rfl) 3 _ rfl
      have GZ : Hid (((((W.setCell ⟨w.heap.size, 0, none⟩ (.int .i64 b.st.f0)).setCell ⟨w.heap.size, 1, none⟩ (.slice Ac b.st.f1.length cc)).setCell ⟨w.heap.size, 2, none⟩ (.slice (some ⟨gl, 0, none⟩) b.ports.length b.ports.length)).setCell ⟨w.heap.size, 3, none⟩ (.slice Ad b.pend.length cd)).heap[g]? = some (.cells #[.int .i64 b.mode, .int .i64 b.back, .int .i64 b.now, .slice (some ⟨gp, 0, none⟩) b.ports.length b.ports.length, .slice (some ⟨nb, 0, none⟩) b.ports.length b.ports.length, .bool true, .bool true, .int .i64 0, .slice none 0 0, .slice none 0 0] 78 (0, 0))) := blk_far (blk_far (blk_far (blk_far (GY.out) n1 _) n1 _) n1 _) n1 _
      have OZ : Hid (Only g w ((((W.setCell ⟨w.heap.size, 0, none⟩ (.int .i64 b.st.f0)).setCell ⟨w.heap.size, 1, none⟩ (.slice Ac b.st.f1.length cc)).setCell ⟨w.heap.size, 2, none⟩ (.slice (some ⟨gl, 0, none⟩) b.ports.length b.ports.length)).setCell ⟨w.heap.size, 3, none⟩ (.slice Ad b.pend.length cd))) := ((((OY.out).setFar (Nat.le_refl _) _).setFar (Nat.le_refl _) _).setFar (Nat.le_refl _) _).setFar (Nat.le_refl _) _
      have NZ : Hid (((((W.setCell ⟨w.heap.size, 0, none⟩ (.int .i64 b.st.f0)).setCell ⟨w.heap.size, 1, none⟩ (.slice Ac b.st.f1.length cc)).setCell ⟨w.heap.size, 2, none⟩ (.slice (some ⟨gl, 0, none⟩) b.ports.length b.ports.length)).setCell ⟨w.heap.size, 3, none⟩ (.slice Ad b.pend.length cd)).heap[nb]? = some (.cells (madeCells #[.slice none 0 0] b.ports.length) 35)) := blk_far (blk_far (blk_far (blk_far (NY.out) nb2 _) nb2 _) nb2 _) nb2 _
      clear hHeld DY GY OY NY
      generalize ((((W.setCell ⟨w.heap.size, 0, none⟩ (.int .i64 b.st.f0)).setCell ⟨w.heap.size, 1, none⟩ (.slice Ac b.st.f1.length cc)).setCell ⟨w.heap.size, 2, none⟩ (.slice (some ⟨gl, 0, none⟩) b.ports.length b.ports.length)).setCell ⟨w.heap.size, 3, none⟩ (.slice Ad b.pend.length cd)) = W at DZ GZ OZ NZ ⊢
      go_wp2
      refine bodyPost_ret (results_list (rs := [.tmp 2, .cell 3 55, .tmp 4]) (vs := [.int .i64 b.now, .agg #[.int .i64 b.st.f0, .slice Ac b.st.f1.length cc, .slice (some ⟨gl, 0, none⟩) b.ports.length b.ports.length, .slice Ad b.pend.length cd], .bool true]) rfl (by simp) (.tmp (.cell w.heap.size 55 #[.int .i64 b.st.f0, .slice Ac b.st.f1.length cc, .slice (some ⟨gl, 0, none⟩) b.ports.length b.ports.length, .slice Ad b.pend.length cd] (0, 0) _ rfl DZ.out Try.underlying55 rfl (by kernel_rfl) (.tmp .nil)))) rfl ?_
      exact H.out.handing Hrdy.out GZ.out OZ.out NZ.out nb1 rfl
    · have x9 : W1.cell? ⟨g, 9, none⟩ = some (.slice Ad b.pend.length cd) := blk_at GX1.out 9 rfl
      have z9 : W1.frozen? ⟨g, 9, none⟩ = false := blk_frozen GX1.out 9
      refine skip_ (w1 := (W1.setCell ⟨g, 9, none⟩ (.slice none 0 0))) (by rfl) rfl (by go_simp) ?_
      clear x9 z9
      have hnb2 : nb = (W1.setCell ⟨g, 9, none⟩ (.slice none 0 0)).heap.size := by simp only [World.size_setCell]; exact hnb1
      have GX2 : Hid ((W1.setCell ⟨g, 9, none⟩ (.slice none 0 0)).heap[g]? = some (.cells #[.int .i64 b.mode, .int .i64 b.back, .int .i64 b.now, .slice (some ⟨gp, 0, none⟩) b.ports.length b.ports.length, .slice (some ⟨gl, 0, none⟩) b.ports.length b.ports.length, .bool true, .bool true, .int .i64 0, .slice none 0 0, .slice none 0 0] 78 (0, 0))) := blk_put (GX1.out) 9 _ rfl
      have DX2 : Hid ((W1.setCell ⟨g, 9, none⟩ (.slice none 0 0)).heap[w.heap.size]? = some (.cells #[.int .i64 b.st.f0, .slice Ac b.st.f1.length cc, .slice (some ⟨gl, 0, none⟩) b.ports.length b.ports.length, .slice Ad b.pend.length cd] 55 (0, 0))) := blk_far (DX1.out) n2 _
      have OX2 : Hid (Only g w (W1.setCell ⟨g, 9, none⟩ (.slice none 0 0))) := (OX1.out).set 9 _
      refine hK.out _ _ (blk_at GX2.out 3 rfl) (fun hHeld => ?_)
      clear hK K GX1 DX1 OX1
      generalize (W1.setCell ⟨g, 9, none⟩ (.slice none 0 0)) = W2 at GX2 DX2 OX2 hnb2 hHeld ⊢
      refine one_ (i := 10) (N := some 54) #[true, true, true, true, true, true, true, true, true, true, true, true, true, true, true, true, true, true, true, false, false, false, false] rfl rfl (by kernel_rfl) (by decide) (fun K hK => ?_)
      refine value_ (w1 := (W2.alloc (.cells (madeCells #[.slice none 0 0] b.ports.length) 35))) (v := .slice (some ⟨nb, 0, none⟩) b.ports.length b.ports.length) (by rfl) rfl (by rw [hnb2]; go_simp) ?_
      have NX3 : Hid ((W2.alloc (.cells (madeCells #[.slice none 0 0] b.ports.length) 35)).heap[nb]? = some (.cells (madeCells #[.slice none 0 0] b.ports.length) 35)) := by rw [hnb2]; exact blk_new _ _
      have GX3 : Hid ((W2.alloc (.cells (madeCells #[.slice none 0 0] b.ports.length) 35)).heap[g]? = some (.cells #[.int .i64 b.mode, .int .i64 b.back, .int .i64 b.now, .slice (some ⟨gp, 0, none⟩) b.ports.length b.ports.length, .slice (some ⟨gl, 0, none⟩) b.ports.length b.ports.length, .bool true, .bool true, .int .i64 0, .slice none 0 0, .slice none 0 0] 78 (0, 0))) := blk_alloc GX2.out _
      have DX3 : Hid ((W2.alloc (.cells (madeCells #[.slice none 0 0] b.ports.length) 35)).heap[w.heap.size]? = some (.cells #[.int .i64 b.st.f0, .slice Ac b.st.f1.length cc, .slice (some ⟨gl, 0, none⟩) b.ports.length b.ports.length, .slice Ad b.pend.length cd] 55 (0, 0))) := blk_alloc DX2.out _
      have OX3 : Hid (Only g w (W2.alloc (.cells (madeCells #[.slice none 0 0] b.ports.length) 35))) := OX2.out.alloc _
      refine hK.out _ _ (blk_at GX3.out 3 rfl) (fun hHeld => ?_)
      clear hK K GX2 DX2 OX2
      generalize (W2.alloc (.cells (madeCells #[.slice none 0 0] b.ports.length) 35)) = W3 at GX3 DX3 OX3 NX3 hHeld ⊢
      refine norm_ (a' := ?_) ?_ ?_
      rotate_left
      · show Act.put _ (some 54) _ = _
        simp only [Act.put, List.setIfInBounds_toArray, List.set_cons_zero, List.set_cons_succ]
        rfl
      refine pure_ (i := 19) (N := some 61) (v := ?_) (a' := ?_) #[true, true, true, true, true, true, true, true, true, true, true, true, true, true, true, true, true, true, true, true, false, false, false] rfl rfl (by kernel_rfl) (fun _ _ _ h => h) (Or.inl ⟨by rfl, ?_⟩) ?_ ?_
      rotate_left
      · intro w'
        go_simp
        with_reducible rfl
      rotate_left
      · simp only [Act.put, List.setIfInBounds_toArray, List.set_cons_zero, List.set_cons_succ]
        rfl
      refine pure_ (i := 20) (N := some 62) (v := ?_) (a' := ?_) #[true, true, true, true, true, true, true, true, true, true, true, true, true, true, true, true, true, true, true, true, true, false, false] rfl rfl (by kernel_rfl) (fun _ _ _ h => h) (Or.inl ⟨by rfl, ?_⟩) ?_ ?_
      rotate_left
      · intro w'
        go_simp
        with_reducible rfl
      rotate_left
      · simp only [Act.put, List.setIfInBounds_toArray, List.set_cons_zero, List.set_cons_succ]
        rfl
      refine pure_ (i := 21) (N := some 63) (v := ?_) (a' := ?_) #[true, true, true, true, true, true, true, true, true, true, true, true, true, true, true, true, true, true, true, true, true, true, false] rfl rfl (by kernel_rfl) (fun _ _ _ h => h) (Or.inl ⟨by rfl, ?_⟩) ?_ ?_
      rotate_left
      · intro w'
        go_simp
        with_reducible rfl
      rotate_left
      · simp only [Act.put, List.setIfInBounds_toArray, List.set_cons_zero, List.set_cons_succ]
        rfl
      refine last_ (i := 22) (N := none) #[true, true, true, true, true, true, true, true, true, true, true, true, true, true, true, true, true, true, true, true, true, true, true] rfl rfl (by kernel_rfl) (by decide) (fun K hK => ?_)
      have x4 : W3.cell? ⟨g, 4, none⟩ = some (.slice (some ⟨gl, 0, none⟩) b.ports.length b.ports.length) := blk_at GX3.out 4 rfl
      have z4 : W3.frozen? ⟨g, 4, none⟩ = false := blk_frozen GX3.out 4
      refine skip_ (w1 := (W3.setCell ⟨g, 4, none⟩ (.slice (some ⟨nb, 0, none⟩) b.ports.length b.ports.length))) (by rfl) rfl (by go_simp) ?_
      clear x4 z4
      have NX4 : Hid ((W3.setCell ⟨g, 4, none⟩ (.slice (some ⟨nb, 0, none⟩) b.ports.length b.ports.length)).heap[nb]? = some (.cells (madeCells #[.slice none 0 0] b.ports.length) 35)) := blk_far (NX3.out) nbg _
      have GX4 : Hid ((W3.setCell ⟨g, 4, none⟩ (.slice (some ⟨nb, 0, none⟩) b.ports.length b.ports.length)).heap[g]? = some (.cells #[.int .i64 b.mode, .int .i64 b.back, .int .i64 b.now, .slice (some ⟨gp, 0, none⟩) b.ports.length b.ports.length, .slice (some ⟨nb, 0, none⟩) b.ports.length b.ports.length, .bool true, .bool true, .int .i64 0, .slice none 0 0, .slice none 0 0] 78 (0, 0))) := blk_put (GX3.out) 4 _ rfl
      have DX4 : Hid ((W3.setCell ⟨g, 4, none⟩ (.slice (some ⟨nb, 0, none⟩) b.ports.length b.ports.length)).heap[w.heap.size]? = some (.cells #[.int .i64 b.st.f0, .slice Ac b.st.f1.length cc, .slice (some ⟨gl, 0, none⟩) b.ports.length b.ports.length, .slice Ad b.pend.length cd] 55 (0, 0))) := blk_far (DX3.out) n2 _
      have OX4 : Hid (Only g w (W3.setCell ⟨g, 4, none⟩ (.slice (some ⟨nb, 0, none⟩) b.ports.length b.ports.length))) := (OX3.out).set 4 _
      refine hK.out _ _ ?_
      clear hK K GX3 DX3 OX3 NX3
      generalize (W3.setCell ⟨g, 4, none⟩ (.slice (some ⟨nb, 0, none⟩) b.ports.length b.ports.length)) = W4 at GX4 DX4 OX4 NX4 ⊢
      refine done_ (by kernel_rfl) ?_
      clear hHeld
      go_wp2
      refine start_ (n := 8) (S := (fun w' => w'.cell? ⟨g, 2, none⟩ = some (.int .i64 b.now) ∧ w'.cell? ⟨w.heap.size, 0, none⟩ = some (.int .i64 b.st.f0) ∧ w'.cell? ⟨w.heap.size, 1, none⟩ = some (.slice Ac b.st.f1.length cc) ∧ w'.cell? ⟨w.heap.size, 2, none⟩ = some (.slice (some ⟨gl, 0, none⟩) b.ports.length b.ports.length) ∧ w'.cell? ⟨w.heap.size, 3, none⟩ = some (.slice Ad b.pend.length cd))) (ds := [6]) #[false, false, false, false, false, false, false, false] (by kernel_rfl) rfl rfl ⟨blk_at GX4.out 2 rfl, blk_at DX4.out 0 rfl, blk_at DX4.out 1 rfl, blk_at DX4.out 2 rfl, blk_at DX4.out 3 rfl⟩ (fun hHeld => ?_)
      have GY : Hid (W4.drew.heap[g]? = some (.cells #[.int .i64 b.mode, .int .i64 b.back, .int .i64 b.now, .slice (some ⟨gp, 0, none⟩) b.ports.length b.ports.length, .slice (some ⟨nb, 0, none⟩) b.ports.length b.ports.length, .bool true, .bool true, .int .i64 0, .slice none 0 0, .slice none 0 0] 78 (0, 0))) := GX4.out
      have DY : Hid (W4.drew.heap[w.heap.size]? = some (.cells #[.int .i64 b.st.f0, .slice Ac b.st.f1.length cc, .slice (some ⟨gl, 0, none⟩) b.ports.length b.ports.length, .slice Ad b.pend.length cd] 55 (0, 0))) := DX4.out
      have OY : Hid (Only g w W4.drew) := OX4.out.drew
      have NY : Hid (W4.drew.heap[nb]? = some (.cells (madeCells #[.slice none 0 0] b.ports.length) 35)) := NX4.out
      clear GX4 DX4 OX4 NX4
      generalize W4.drew = W at hHeld GY DY OY NY ⊢
      refine pure_ (i := 0) (N := some 64) (v := ?_) (a' := ?_) #[true, false, false, false, false, false, false, false] rfl rfl (by kernel_rfl) (fun _ _ _ h => h) (Or.inl ⟨by rfl, ?_⟩) ?_ ?_
      rotate_left
      · intro w'
        go_simp
        with_reducible rfl
      rotate_left
      · simp only [Act.put, List.setIfInBounds_toArray, List.set_cons_zero, List.set_cons_succ]
        rfl
      refine pure_ (i := 1) (N := some 65) (v := ?_) (a' := ?_) #[true, true, false, false, false, false, false, false] rfl rfl (by kernel_rfl) (fun _ _ _ h => h) (Or.inl ⟨by rfl, ?_⟩) ?_ ?_
      rotate_left
      · intro w'
        go_simp
        with_reducible rfl
      rotate_left
      · simp only [Act.put, List.setIfInBounds_toArray, List.set_cons_zero, List.set_cons_succ]
        rfl
      refine pure_ (i := 2) (N := some 66) (v := ?_) (a' := ?_) #[true, true, true, false, false, false, false, false] rfl rfl (by kernel_rfl) (fun _ _ _ h => h) (Or.inl ⟨by rfl, ?_⟩) ?_ ?_
      rotate_left
      · intro w'
        go_simp
        with_reducible rfl
      rotate_left
      · simp only [Act.put, List.setIfInBounds_toArray, List.set_cons_zero, List.set_cons_succ]
        rfl
      refine take_ (i := 3) (N := some 67) (v := ?_) (a' := ?_) #[true, true, true, true, false, false, false, false] rfl rfl (by kernel_rfl) (fun _ _ _ h => h) (Or.inl ⟨by rfl, ?_⟩) hHeld ?_ ?_
      rotate_left
      · rintro w' ⟨s0, s1, s2, s3, s4⟩
        go_simp
        with_reducible rfl
      rotate_left
      · simp only [Act.put, List.setIfInBounds_toArray, List.set_cons_zero, List.set_cons_succ]
        rfl
      refine take_ (i := 4) (N := some 68) (v := ?_) (a' := ?_) #[true, true, true, true, true, false, false, false] rfl rfl (by kernel_rfl) (fun _ _ _ h => h) (Or.inl ⟨by rfl, ?_⟩) hHeld ?_ ?_
      rotate_left
      · rintro w' ⟨s0, s1, s2, s3, s4⟩
        go_simp
        with_reducible rfl
      rotate_left
      · simp only [Act.put, List.setIfInBounds_toArray, List.set_cons_zero, List.set_cons_succ]
        rfl
      refine pure_ (i := 5) (N := some 2) (v := ?_) (a' := ?_) #[true, true, true, true, true, true, false, false] rfl rfl (by kernel_rfl) (fun _ _ _ h => h) (Or.inl ⟨by rfl, ?_⟩) ?_ ?_
      rotate_left
      · intro w'
        go_simp
        with_reducible rfl
      rotate_left
      · simp only [Act.put, List.setIfInBounds_toArray, List.set_cons_zero, List.set_cons_succ]
        rfl
      refine last_ (i := 6) (N := none) #[true, true, true, true, true, true, true, false] rfl rfl (by kernel_rfl) (by decide) (fun K hK => ?_)
      have y0 : W.cell? ⟨w.heap.size, 0, none⟩ = some (.int .i64 b.st.f0) := blk_at DY.out 0 rfl
      have z0 : W.frozen? ⟨w.heap.size, 0, none⟩ = false := blk_frozen DY.out 0
      have y1 : W.cell? ⟨w.heap.size, 1, none⟩ = some (.slice Ac b.st.f1.length cc) := blk_at DY.out 1 rfl
      have z1 : W.frozen? ⟨w.heap.size, 1, none⟩ = false := blk_frozen DY.out 1
      have y2 : W.cell? ⟨w.heap.size, 2, none⟩ = some (.slice (some ⟨gl, 0, none⟩) b.ports.length b.ports.length) := blk_at DY.out 2 rfl
      have z2 : W.frozen? ⟨w.heap.size, 2, none⟩ = false := blk_frozen DY.out 2
      have y3 : W.cell? ⟨w.heap.size, 3, none⟩ = some (.slice Ad b.pend.length cd) := blk_at DY.out 3 rfl
      have z3 : W.frozen? ⟨w.heap.size, 3, none⟩ = false := blk_frozen DY.out 3
      refine skip_ (w1 := ((((W.setCell ⟨w.heap.size, 0, none⟩ (.int .i64 b.st.f0)).setCell ⟨w.heap.size, 1, none⟩ (.slice Ac b.st.f1.length cc)).setCell ⟨w.heap.size, 2, none⟩ (.slice (some ⟨gl, 0, none⟩) b.ports.length b.ports.length)).setCell ⟨w.heap.size, 3, none⟩ (.slice Ad b.pend.length cd))) (by rfl) rfl (by go_simp) ?_
      refine hK.out _ _ ?_
      clear hK K y0 z0 y1 z1 y2 z2 y3 z3
      refine pure_ (i := 7) (N := some 4) (v := ?_) (a' := ?_) #[true, true, true, true, true, true, true, true] rfl rfl (by kernel_rfl) (fun _ _ _ h => h) (Or.inl ⟨by rfl, ?_⟩) ?_ ?_
      rotate_left
      · intro w'
        go_simp
        with_reducible rfl
      rotate_left
      · simp only [Act.put, List.setIfInBounds_toArray, List.set_cons_zero, List.set_cons_succ]
        rfl
      refine done_ (by kernel_rfl) ?_
      have DZ : Hid (((((W.setCell ⟨w.heap.size, 0, none⟩ (.int .i64 b.st.f0)).setCell ⟨w.heap.size, 1, none⟩ (.slice Ac b.st.f1.length cc)).setCell ⟨w.heap.size, 2, none⟩ (.slice (some ⟨gl, 0, none⟩) b.ports.length b.ports.length)).setCell ⟨w.heap.size, 3, none⟩ (.slice Ad b.pend.length cd)).heap[w.heap.size]? = some (.cells #[.int .i64 b.st.f0, .slice Ac b.st.f1.length cc, .slice (some ⟨gl, 0, none⟩) b.ports.length b.ports.length, .slice Ad b.pend.length cd] 55 (0, 0))) := blk_put (blk_put (blk_put (blk_put (DY.out) 0 _ rfl) 1 _ rfl) 2 _ rfl) 3 _ rfl
      have GZ : Hid (((((W.setCell ⟨w.heap.size, 0, none⟩ (.int .i64 b.st.f0)).setCell ⟨w.heap.size, 1, none⟩ (.slice Ac b.st.f1.length cc)).setCell ⟨w.heap.size, 2, none⟩ (.slice (some ⟨gl, 0, none⟩) b.ports.length b.ports.length)).setCell ⟨w.heap.size, 3, none⟩ (.slice Ad b.pend.length cd)).heap[g]? = some (.cells #[.int .i64 b.mode, .int .i64 b.back, .int .i64 b.now, .slice (some ⟨gp, 0, none⟩) b.ports.length b.ports.length, .slice (some ⟨nb, 0, none⟩) b.ports.length b.ports.length, .bool true, .bool true, .int .i64 0, .slice none 0 0, .slice none 0 0] 78 (0, 0))) := blk_far (blk_far (blk_far (blk_far (GY.out) n1 _) n1 _) n1 _) n1 _
      have OZ : Hid (Only g w ((((W.setCell ⟨w.heap.size, 0, none⟩ (.int .i64 b.st.f0)).setCell ⟨w.heap.size, 1, none⟩ (.slice Ac b.st.f1.length cc)).setCell ⟨w.heap.size, 2, none⟩ (.slice (some ⟨gl, 0, none⟩) b.ports.length b.ports.length)).setCell ⟨w.heap.size, 3, none⟩ (.slice Ad b.pend.length cd))) := ((((OY.out).setFar (Nat.le_refl _) _).setFar (Nat.le_refl _) _).setFar (Nat.le_refl _) _).setFar (Nat.le_refl _) _
      have NZ : Hid (((((W.setCell ⟨w.heap.size, 0, none⟩ (.int .i64 b.st.f0)).setCell ⟨w.heap.size, 1, none⟩ (.slice Ac b.st.f1.length cc)).setCell ⟨w.heap.size, 2, none⟩ (.slice (some ⟨gl, 0, none⟩) b.ports.length b.ports.length)).setCell ⟨w.heap.size, 3, none⟩ (.slice Ad b.pend.length cd)).heap[nb]? = some (.cells (madeCells #[.slice none 0 0] b.ports.length) 35)) := blk_far (blk_far (blk_far (blk_far (NY.out) nb2 _) nb2 _) nb2 _) nb2 _
      clear hHeld DY GY OY NY
      generalize ((((W.setCell ⟨w.heap.size, 0, none⟩ (.int .i64 b.st.f0)).setCell ⟨w.heap.size, 1, none⟩ (.slice Ac b.st.f1.length cc)).setCell ⟨w.heap.size, 2, none⟩ (.slice (some ⟨gl, 0, none⟩) b.ports.length b.ports.length)).setCell ⟨w.heap.size, 3, none⟩ (.slice Ad b.pend.length cd)) = W at DZ GZ OZ NZ ⊢
      go_wp2
      refine bodyPost_ret (results_list (rs := [.tmp 2, .cell 3 55, .tmp 4]) (vs := [.int .i64 b.now, .agg #[.int .i64 b.st.f0, .slice Ac b.st.f1.length cc, .slice (some ⟨gl, 0, none⟩) b.ports.length b.ports.length, .slice Ad b.pend.length cd], .bool true]) rfl (by simp) (.tmp (.cell w.heap.size 55 #[.int .i64 b.st.f0, .slice Ac b.st.f1.length cc, .slice (some ⟨gl, 0, none⟩) b.ports.length b.ports.length, .slice Ad b.pend.length cd] (0, 0) _ rfl DZ.out Try.underlying55 rfl (by kernel_rfl) (.tmp .nil)))) rfl ?_
      exact H.out.handing Hrdy.out GZ.out OZ.out NZ.out nb1 rfl

theorem part22 (h : BkAt w base own g b gp gl vc vd lv) : Calls Try.prog 22 #[.pointer (some ⟨g, 0, none⟩)] w fun e w' => PartAns base own g b w e w' := by
  have no : b.ready = false → (Calls Try.prog 22 #[.pointer (some ⟨g, 0, none⟩)] w fun e w' => e = .returned (.tuple #[.int .i64 0, .agg #[.int .i64 0, .slice none 0 0, .slice none 0 0, .slice none 0 0], .bool false]) ∧ BkPost base own g b w w') → Calls Try.prog 22 #[.pointer (some ⟨g, 0, none⟩)] w fun e w' => PartAns base own g b w e w' := fun hr h => by
    refine h.mono ?_
    intro e w' he
    unfold PartAns
    rw [if_neg (by rw [hr]; simp)]
    exact he
  rcases hc : b.copied with _ | _
  · exact no (by unfold Bk.ready; rw [hc]; rfl) (part22_copied h hc)
  · rcases hg : b.given with _ | _
    · rcases hs : b.shutB (-1) with _ | _
      · exact no (by unfold Bk.ready; rw [hs]; simp) (part22_open h hc hg hs)
      · obtain ⟨Ac, cc, e1⟩ := Kd.R_slice h.rc
        obtain ⟨Ad, cd, e2⟩ := Kd.R_slice h.rd
        subst e1
        subst e2
        exact part22_ready h hc hg hs
    · exact no (by unfold Bk.ready; rw [hg]; simp) (part22_given h hc hg)
end
end Go.Proofs.Ytomfknblehkocaa.C
