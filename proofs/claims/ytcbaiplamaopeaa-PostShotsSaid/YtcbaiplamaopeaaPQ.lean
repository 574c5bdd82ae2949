/- The story in memory: its trigger, its pick. -/
import Derived.Test.YtcbaiplamaopeaaPO
import Derived.Test.YtcbaiplamaopeaaSX
namespace Go.Proofs.Ytcbaiplamaopeaa.PPostShots
open Go.RowKit Go.Conc Go.Proofs.YtcbaiplamaopeaaW.PrintWords Go.Proofs.YtcbaiplamaopeaaW.PrintLast Go.Proofs.Ytcbaiplamaopeaa.PPost
set_option linter.unusedVariables false
set_option linter.unusedSimpArgs false

/-- The story is in memory, at block gs. -/
structure StAt (own : Nat → Nat) (w : World) (gs n : Nat) (T : ST) (v : Value) : Prop where
  hb : w.heap[gs]? = some (.cells #[.int .i64 T.id, v, .int .i64 T.count, .int .i64 T.picked, .int .i64 T.next, .int .i64 T.marks] 54 (0, 0))
  og : own gs = 2
  hv : 0 < T.id → T.hd.length = n ∧ ∃ gh, v = .slice (some ⟨gh, 0, none⟩) n n ∧ w.heap[gh]? = some (.cells (whC T.hd) 3 (0, 0)) ∧ own gh = 2
theorem StAt.upd {own own' : Nat → Nat} {w w' : World} {gs n : Nat} {T : ST} {v : Value} {P : Nat → Prop} (h : StAt own w gs n T v) (h0 : ¬ P 2) (hu : Upd P own w own' w') : StAt own' w' gs n T v where
  hb := hu.blk h.hb (by rw [h.og]; exact h0)
  og := (hu.same gs (blk_lt h.hb) (by rw [h.og]; exact h0)).trans h.og
  hv := fun hp => by
    obtain ⟨h1, gh, h2, h3, h4⟩ := h.hv hp
    exact ⟨h1, gh, h2, hu.blk h3 (by rw [h4]; exact h0), (hu.same gh (blk_lt h3) (by rw [h4]; exact h0)).trans h4⟩
/-- Stores into the story's own block that leave the row where it is. -/
theorem StAt.put {own : Nat → Nat} {w : World} {gs n : Nat} {T T' : ST} {v : Value} (h : StAt own w gs n T v) (i : Nat) (u : Value) (hcs : (#[.int .i64 T.id, v, .int .i64 T.count, .int .i64 T.picked, .int .i64 T.next, .int .i64 T.marks] : Array Value).setIfInBounds i u = #[.int .i64 T'.id, v, .int .i64 T'.count, .int .i64 T'.picked, .int .i64 T'.next, .int .i64 T'.marks]) (hd : T'.hd = T.hd) (hid : 0 < T'.id → 0 < T.id) : StAt own (w.setCell ⟨gs, i, none⟩ u) gs n T' v where
  hb := blk_put h.hb i u hcs
  og := h.og
  hv := fun hp => by
    obtain ⟨h1, gh, h2, h3, h4⟩ := h.hv (hid hp)
    rw [hd]
    exact ⟨h1, gh, h2, (set_far _ _ _ (blk_ne h3 h.hb (by decide))).trans h3, h4⟩
set_option maxRecDepth 100000 in
set_option maxHeartbeats 4000000 in
theorem sameShot38 (w : World) : Calls Try.prog 38 #[.agg #[.int .i64 0, .int .u32 0, .slice none 0 0], .agg #[.int .i64 0, .int .u32 0, .slice none 0 0]] w fun e w' => e = .returned (.bool true) ∧ Hid (Below w.heap.size w w') := by
  have H1 : Hid (((w.alloc (.cells #[.int .i64 0, .int .u32 0, .slice none 0 0] 44)).alloc (.cells #[.int .i64 0, .int .u32 0, .slice none 0 0] 44)).heap[w.heap.size]? = some (.cells #[.int .i64 0, .int .u32 0, .slice none 0 0] 44 (0, 0))) := Lib.hid (blk_alloc (blk_new w _) _)
  have H2 : Hid (((w.alloc (.cells #[.int .i64 0, .int .u32 0, .slice none 0 0] 44)).alloc (.cells #[.int .i64 0, .int .u32 0, .slice none 0 0] 44)).heap[w.heap.size + 1]? = some (.cells #[.int .i64 0, .int .u32 0, .slice none 0 0] 44 (0, 0))) := Lib.hid (by
    have := blk_new (w.alloc (.cells #[.int .i64 0, .int .u32 0, .slice none 0 0] 44)) (.cells #[.int .i64 0, .int .u32 0, .slice none 0 0] 44)
    simp only [World.size_alloc] at this
    exact this)
  have HB : Hid (Below w.heap.size w ((w.alloc (.cells #[.int .i64 0, .int .u32 0, .slice none 0 0] 44)).alloc (.cells #[.int .i64 0, .int .u32 0, .slice none 0 0] 44))) := Lib.hid (((Below.refl _ _).alloc (Nat.le_refl _) _).alloc (by simp) _)
  go_enter Try.func38, Try.ntmps38
  go_upto_region 1 with (fail)
  generalize (w.alloc (.cells #[.int .i64 0, .int .u32 0, .slice none 0 0] 44)).alloc (.cells #[.int .i64 0, .int .u32 0, .slice none 0 0] 44) = w1 at *
  generalize w.heap.size = b0 at H1 H2 ⊢
  have p0 : w1.cell? ⟨b0, 0, none⟩ = some (.int .i64 0) := blk_at H1.out 0 rfl
  have q0 : w1.cell? ⟨b0 + 1, 0, none⟩ = some (.int .i64 0) := blk_at H2.out 0 rfl
  have p1 : w1.cell? ⟨b0, 1, none⟩ = some (.int .u32 0) := blk_at H1.out 1 rfl
  have q1 : w1.cell? ⟨b0 + 1, 1, none⟩ = some (.int .u32 0) := blk_at H2.out 1 rfl
  have p2 : w1.cell? ⟨b0, 2, none⟩ = some (.slice none 0 0) := blk_at H1.out 2 rfl
  have q2 : w1.cell? ⟨b0 + 1, 2, none⟩ = some (.slice none 0 0) := blk_at H2.out 2 rfl
  go_wp2_with (fail)
  go_loopw [5] (fun v5 wr => v5 = .int .i64 0 ∧ Hid (wr = w1)) (fun _ _ => 0)
  case atStart => exact ⟨rfl, Lib.hid rfl⟩
  case round =>
    obtain ⟨rfl, hw⟩ := hrel
    have hw := hw.out
    subst hw
    go_wp2_with (fail)
    go_ret
    exact ⟨rfl, HB⟩
set_option maxRecDepth 100000 in
set_option maxHeartbeats 4000000 in
theorem story18_under (own : Nat → Nat) (w : World) (gs n : Nat) (T : ST) (v : Value) (h : StAt own w gs n T v) (sum : Int) (hp : 0 < T.id) :
    Calls Try.prog 18 #[.pointer (some ⟨gs, 0, none⟩), .int .i64 n, .int .i64 0, .int .i64 141] w fun e w' => e = .returned (.bool true) ∧ w = w' := by
  have q0 : w.cell? ⟨gs, 0, none⟩ = some (.int .i64 T.id) := blk_at h.hb 0 rfl
  have k1 : decide (0 < T.id) = true := decide_eq_true hp
  clear h hp
  go_enter Try.func18, Try.ntmps18
  go_wp2_with (fail)
  go_ret
  exact ⟨rfl, rfl⟩
set_option maxRecDepth 100000 in
set_option maxHeartbeats 4000000 in
theorem story18_ids (own : Nat → Nat) (w : World) (gs n : Nat) (T : ST) (v : Value) (h : StAt own w gs n T v) (hp : ¬ 0 < T.id) (hx : 9999 < T.next) :
    Calls Try.prog 18 #[.pointer (some ⟨gs, 0, none⟩), .int .i64 n, .int .i64 0, .int .i64 142] w fun e w' => e = .returned (.bool true) ∧ w = w' := by
  have q0 : w.cell? ⟨gs, 0, none⟩ = some (.int .i64 T.id) := blk_at h.hb 0 rfl
  have q4 : w.cell? ⟨gs, 4, none⟩ = some (.int .i64 T.next) := blk_at h.hb 4 rfl
  have k1 : decide (0 < T.id) = false := decide_eq_false hp
  have k2 : decide (9999 < T.next) = true := decide_eq_true hx
  clear h hp hx
  go_enter Try.func18, Try.ntmps18
  go_wp2_with (fail)
  go_ret
  exact ⟨rfl, rfl⟩
set_option maxRecDepth 100000 in
set_option maxHeartbeats 4000000 in
theorem story18_ok (own : Nat → Nat) (w : World) (gs n : Nat) (T : ST) (v : Value) (h : StAt own w gs n T v) (hp : ¬ 0 < T.id) (hx : ¬ 9999 < T.next) (hx1 : 1 ≤ T.next) (hn : n ≤ 12) :
    Calls Try.prog 18 #[.pointer (some ⟨gs, 0, none⟩), .int .i64 n, .int .i64 T.next, .int .i64 0] w fun e w' => e = .returned (.bool true) ∧ ∃ own' v', Hid (StAt own' w' gs n (T.trigd n) v') ∧ Hid (Upd (· = 2) own w own' w') := by
  obtain ⟨nx, hnx⟩ : ∃ nx, nx = T.next := ⟨_, rfl⟩
  have H0 : Hid (w.heap[gs]? = some (.cells #[.int .i64 T.id, v, .int .i64 T.count, .int .i64 T.picked, .int .i64 nx, .int .i64 T.marks] 54 (0, 0))) := Lib.hid (by rw [hnx]; exact h.hb)
  have H1 := Lib.hid (blk_put H0.out 0 (.int .i64 nx) rfl)
  have H2 := Lib.hid (blk_put H1.out 4 (.int .i64 (nx + 1)) rfl)
  have H3 := Lib.hid (blk_alloc H2.out (.cells (madeCells #[.int .i64 0] n) 3))
  have H4 := Lib.hid (blk_put H3.out 1 (.slice (some ⟨w.heap.size, 0, none⟩) n n) rfl)
  have H5 := Lib.hid (blk_put H4.out 2 (.int .i64 0) rfl)
  have H6 := Lib.hid (blk_put H5.out 3 (.int .i64 0) rfl)
  have hmk := run_make_row' (P := Try.prog) 23 3 (.int .i64 0) 8 Try.underlying23 info3 rfl .i64 .i64 n (by omega) (by omega) ((w.setCell ⟨gs, 0, none⟩ (.int .i64 nx)).setCell ⟨gs, 4, none⟩ (.int .i64 (nx + 1)))
  simp only [World.size_setCell] at hmk
  have Hg := Lib.hid h.og
  have Hgl := Lib.hid (blk_lt h.hb)
  have Hnx := Lib.hid hnx
  have q0 : w.cell? ⟨gs, 0, none⟩ = some (.int .i64 T.id) := blk_at H0.out 0 rfl
  have q4 : w.cell? ⟨gs, 4, none⟩ = some (.int .i64 nx) := blk_at H0.out 4 rfl
  have z0 : w.frozen? ⟨gs, 0, none⟩ = false := blk_frozen H0.out 0
  have p4 : (w.setCell ⟨gs, 0, none⟩ (.int .i64 nx)).cell? ⟨gs, 4, none⟩ = some (.int .i64 nx) := blk_at H1.out 4 rfl
  have z4 : (w.setCell ⟨gs, 0, none⟩ (.int .i64 nx)).frozen? ⟨gs, 4, none⟩ = false := blk_frozen H1.out 4
  have k1 : decide (0 < T.id) = false := decide_eq_false hp
  rw [← hnx] at hx hx1 ⊢
  have k2 : decide (9999 < nx) = false := decide_eq_false hx
  clear h hp hnx
  go_enter Try.func18, Try.ntmps18
  go_upto_region 9 with (fail)
  clear q0 q4 z0 p4 z4 k1 k2
  have p1 : (((w.setCell ⟨gs, 0, none⟩ (.int .i64 nx)).setCell ⟨gs, 4, none⟩ (.int .i64 (nx + 1))).alloc (.cells (madeCells #[.int .i64 0] n) 3)).cell? ⟨gs, 1, none⟩ = some v := blk_at H3.out 1 rfl
  have z1 : (((w.setCell ⟨gs, 0, none⟩ (.int .i64 nx)).setCell ⟨gs, 4, none⟩ (.int .i64 (nx + 1))).alloc (.cells (madeCells #[.int .i64 0] n) 3)).frozen? ⟨gs, 1, none⟩ = false := blk_frozen H3.out 1
  have hu3 : Upd (· = 2) own w (fresh own w 2) (((w.setCell ⟨gs, 0, none⟩ (.int .i64 nx)).setCell ⟨gs, 4, none⟩ (.int .i64 (nx + 1))).alloc (.cells (madeCells #[.int .i64 0] n) 3)) := by
    have h1 := (set_own Hg.out 0 (.int .i64 nx) (w := w)).then (set_own Hg.out 4 (.int .i64 (nx + 1)))
    have h2 := h1.then (Upd.alloc (.cells (madeCells #[.int .i64 0] n) 3) 2)
    have h3 : fresh own ((w.setCell ⟨gs, 0, none⟩ (.int .i64 nx)).setCell ⟨gs, 4, none⟩ (.int .i64 (nx + 1))) 2 = fresh own w 2 := by funext k; unfold fresh; simp only [World.size_setCell]
    rw [h3] at h2
    exact h2
  have HR : Hid ((((w.setCell ⟨gs, 0, none⟩ (.int .i64 nx)).setCell ⟨gs, 4, none⟩ (.int .i64 (nx + 1))).alloc (.cells (madeCells #[.int .i64 0] n) 3)).heap[w.heap.size]? = some (.cells (whC (List.replicate n 0)) 3 (0, 0))) := Lib.hid (by
    rw [← cells_made]
    have := blk_new ((w.setCell ⟨gs, 0, none⟩ (.int .i64 nx)).setCell ⟨gs, 4, none⟩ (.int .i64 (nx + 1))) (.cells (madeCells #[.int .i64 0] n) 3)
    simp only [World.size_setCell] at this
    exact this)
  have HU3 := Lib.hid hu3
  go_upto_region 10 with (fail)
  clear p1 z1 hmk hu3
  generalize ((w.setCell ⟨gs, 0, none⟩ (.int .i64 nx)).setCell ⟨gs, 4, none⟩ (.int .i64 (nx + 1))).alloc (.cells (madeCells #[.int .i64 0] n) 3) = w3 at *
  have p2 : (w3.setCell ⟨gs, 1, none⟩ (.slice (some ⟨w.heap.size, 0, none⟩) n n)).cell? ⟨gs, 2, none⟩ = some (.int .i64 T.count) := blk_at H4.out 2 rfl
  have z2 : (w3.setCell ⟨gs, 1, none⟩ (.slice (some ⟨w.heap.size, 0, none⟩) n n)).frozen? ⟨gs, 2, none⟩ = false := blk_frozen H4.out 2
  have p3 : ((w3.setCell ⟨gs, 1, none⟩ (.slice (some ⟨w.heap.size, 0, none⟩) n n)).setCell ⟨gs, 2, none⟩ (.int .i64 0)).cell? ⟨gs, 3, none⟩ = some (.int .i64 T.picked) := blk_at H5.out 3 rfl
  have z3 : ((w3.setCell ⟨gs, 1, none⟩ (.slice (some ⟨w.heap.size, 0, none⟩) n n)).setCell ⟨gs, 2, none⟩ (.int .i64 0)).frozen? ⟨gs, 3, none⟩ = false := blk_frozen H5.out 3
  go_wp2_with (fail)
  go_ret
  have hog : fresh own w 2 gs = 2 := by rw [fresh_old Hgl.out]; exact Hg.out
  have hne : w.heap.size ≠ gs := by have := Hgl.out; omega
  refine ⟨rfl, fresh own w 2, ⟨.slice (some ⟨w.heap.size, 0, none⟩) n n, Lib.hid ⟨?_, hog, fun _ => ⟨List.length_replicate, w.heap.size, rfl, ?_, fresh_new (Nat.le_refl _)⟩⟩⟩, Lib.hid (((HU3.out.then (set_own hog 1 _)).then (set_own hog 2 _)).then (set_own hog 3 _))⟩
  · have h6 := H6.out
    rw [Hnx.out] at h6
    exact h6
  · exact ((set_far _ _ _ hne).trans ((set_far _ _ _ hne).trans (set_far _ _ _ hne))).trans HR.out
set_option maxRecDepth 100000 in
set_option maxHeartbeats 4000000 in
theorem story33_none (own : Nat → Nat) (w : World) (gs n : Nat) (T : ST) (v : Value) (h : StAt own w gs n T v) (sum : Int) (hc : T.id = 0 ∨ T.picked = T.count) :
    Calls Try.prog 33 #[.pointer (some ⟨gs, 0, none⟩), .int .i64 n, .int .u32 sum, .int .i64 0, .agg #[.int .i64 0, .int .u32 0, .slice none 0 0]] w fun e w' => e = .returned (.bool true) ∧ Hid (Below w.heap.size w w') := by
  have HX := Lib.hid (blk_new w (.cells #[.int .i64 0, .int .u32 0, .slice none 0 0] 44))
  have HB : Hid (Below w.heap.size w (w.alloc (.cells #[.int .i64 0, .int .u32 0, .slice none 0 0] 44))) := Lib.hid ((Below.refl _ _).alloc (Nat.le_refl _) _)
  have HG := Lib.hid (blk_alloc h.hb (.cells #[.int .i64 0, .int .u32 0, .slice none 0 0] 44))
  clear h
  go_enter Try.func33, Try.ntmps33
  go_upto_region 1 with (fail)
  generalize w.alloc (.cells #[.int .i64 0, .int .u32 0, .slice none 0 0] 44) = w1 at *
  generalize w.heap.size = bx at HX ⊢
  have q0 : w1.cell? ⟨gs, 0, none⟩ = some (.int .i64 T.id) := blk_at HG.out 0 rfl
  have q2 : w1.cell? ⟨gs, 2, none⟩ = some (.int .i64 T.count) := blk_at HG.out 2 rfl
  have q3 : w1.cell? ⟨gs, 3, none⟩ = some (.int .i64 T.picked) := blk_at HG.out 3 rfl
  go_cut [28] (fun v28 wx => v28 = .bool true ∧ Hid (Below w1.heap.size w1 wx))
  case first =>
    by_cases h0 : T.id = 0
    · have k1 : (T.id == 0) = true := by simpa using h0
      clear h0 hc
      go_quiet (fail)
      go_wp2_with (fail)
      go_meet
      exact ⟨by rfl, Lib.hid (pw_below_drewN (Below.refl _ _) _)⟩
    · have k1 : (T.id == 0) = false := by simpa using h0
      have k2 : (T.picked == T.count) = true := by rcases hc with hc | hc; exact absurd hc h0; simpa using hc
      clear h0 hc
      go_quiet (fail)
      go_wp2_with (fail)
      go_meet
      exact ⟨by rfl, Lib.hid (pw_below_drewN (Below.refl _ _) _)⟩
  case rest =>
  obtain ⟨rfl, HB2⟩ := hcut
  have p0 : wc.cell? ⟨bx, 0, none⟩ = some (.int .i64 0) := pw_cell_below HB2.out (blk_at HX.out 0 rfl)
  have p1 : wc.cell? ⟨bx, 1, none⟩ = some (.int .u32 0) := pw_cell_below HB2.out (blk_at HX.out 1 rfl)
  have p2 : wc.cell? ⟨bx, 2, none⟩ = some (.slice none 0 0) := pw_cell_below HB2.out (blk_at HX.out 2 rfl)
  clear q0 q2 q3
  go_wp2_with (go_at_call 38; refine (sameShot38 _).mono ?_; rintro e w3 ⟨rfl, hb⟩)
  go_ret
  exact ⟨rfl, Lib.hid (HB.out.trans ((HB2.out.trans (hb.out.mono HB2.out.size)).mono HB.out.size))⟩
def more(T : ST) : Prop := ¬ (T.id = 0 ∨ T.picked = T.count)
set_option maxRecDepth 100000 in
set_option maxHeartbeats 4000000 in
theorem story33_more (own : Nat → Nat) (w : World) (gs n : Nat) (T : ST) (v : Value) (h : StAt own w gs n T v) (sum : Int) (hm : more T) (hlt : T.picked + 1 < (n : Int)) (hp : 0 ≤ T.picked) (hn : n ≤ 12) :
    Calls Try.prog 33 #[.pointer (some ⟨gs, 0, none⟩), .int .i64 n, .int .u32 sum, .int .i64 1, .agg #[.int .i64 0, .int .u32 0, .slice none 0 0]] w fun e w' => e = .returned (.bool true) ∧ ∃ own', Hid (StAt own' w' gs n T.pickd v) ∧ Hid (Upd (· = 2) own w own' w') := by
  have HX0 := Lib.hid (blk_new w (.cells #[.int .i64 0, .int .u32 0, .slice none 0 0] 44))
  have HB0 : Hid (Below w.heap.size w (w.alloc (.cells #[.int .i64 0, .int .u32 0, .slice none 0 0] 44))) := Lib.hid ((Below.refl _ _).alloc (Nat.le_refl _) _)
  have HG0 : Hid (StAt (fresh own w 3) (w.alloc (.cells #[.int .i64 0, .int .u32 0, .slice none 0 0] 44)) gs n T v) := Lib.hid (h.upd (P := fun _ => False) (fun e => e) (Upd.alloc _ 3))
  have HU0 : Hid (Upd (· = 2) own w (fresh own w 3) (w.alloc (.cells #[.int .i64 0, .int .u32 0, .slice none 0 0] 44))) := Lib.hid (Upd.alloc _ 3)
  have HTX : Hid (fresh own w 3 w.heap.size = 3) := Lib.hid (fresh_new (Nat.le_refl _))
  obtain ⟨own1, hown1⟩ : ∃ own1 : Nat → Nat, own1 = fresh own w 3 := ⟨_, rfl⟩
  rw [← hown1] at HG0 HU0 HTX
  have hp0 : T.id ≠ 0 := fun h0 => hm (.inl h0)
  have k1 : (T.id == 0) = false := by simpa using hp0
  have k2 : (T.picked == T.count) = false := by simpa using fun h' => hm (.inr h')
  clear h hm hown1 hp0
  go_enter Try.func33, Try.ntmps33
  go_upto_region 1 with (fail)
  generalize w.alloc (.cells #[.int .i64 0, .int .u32 0, .slice none 0 0] 44) = w1 at *
  generalize w.heap.size = bx at *
  have q0 : w1.cell? ⟨gs, 0, none⟩ = some (.int .i64 T.id) := blk_at HG0.out.hb 0 rfl
  have q2 : w1.cell? ⟨gs, 2, none⟩ = some (.int .i64 T.count) := blk_at HG0.out.hb 2 rfl
  have q3 : w1.cell? ⟨gs, 3, none⟩ = some (.int .i64 T.picked) := blk_at HG0.out.hb 3 rfl
  go_cut [28] (fun v28 wx => v28 = .bool false ∧ Hid (Below w1.heap.size w1 wx))
  case first =>
    go_quiet (fail)
    go_wp2_with (fail)
    go_meet
    exact ⟨by rfl, Lib.hid (pw_below_drewN (Below.refl _ _) _)⟩
  case rest =>
  obtain ⟨rfl, HB2⟩ := hcut
  clear q0 q2 q3
  have hu2 : Upd (· = 2) own1 w1 own1 wc := Upd.of_below' HB2.out (fun _ _ => rfl)
  have HG2 : Hid (StAt own1 wc gs n T v) := Lib.hid (HG0.out.upd (P := fun _ => False) (fun e => e) (Upd.of_below' HB2.out (fun _ _ => rfl)))
  have HU2 := Lib.hid (HU0.out.then hu2)
  have HX2 := Lib.hid (blk_below HX0.out HB2.out)
  have p3 : wc.cell? ⟨gs, 3, none⟩ = some (.int .i64 T.picked) := blk_at HG2.out.hb 3 rfl
  have z3 : wc.frozen? ⟨gs, 3, none⟩ = false := blk_frozen HG2.out.hb 3
  have HG3 : Hid (StAt own1 (wc.setCell ⟨gs, 3, none⟩ (.int .i64 (T.picked + 1))) gs n T.pickd v) := Lib.hid (HG2.out.put 3 _ rfl rfl (fun h => h))
  have hu3 : Upd (· = 2) own1 wc own1 (wc.setCell ⟨gs, 3, none⟩ (.int .i64 (T.picked + 1))) := set_own HG2.out.og 3 _
  have HU3 := Lib.hid (HU2.out.then hu3)
  have HX3 := Lib.hid (hu3.blk HX2.out (by rw [HTX.out]; decide))
  clear hu2 hu3 HG0 HU0 HX0 HB2 HG2 HU2 HX2
  have g3 : (wc.setCell ⟨gs, 3, none⟩ (.int .i64 (T.picked + 1))).cell? ⟨gs, 3, none⟩ = some (.int .i64 (T.picked + 1)) := blk_at HG3.out.hb 3 rfl
  have k3 : decide (T.picked + 1 < (n : Int)) = true := decide_eq_true hlt
  have x0 : (wc.setCell ⟨gs, 3, none⟩ (.int .i64 (T.picked + 1))).cell? ⟨bx, 0, none⟩ = some (.int .i64 0) := blk_at HX3.out 0 rfl
  have x1 : (wc.setCell ⟨gs, 3, none⟩ (.int .i64 (T.picked + 1))).cell? ⟨bx, 1, none⟩ = some (.int .u32 0) := blk_at HX3.out 1 rfl
  have x2 : (wc.setCell ⟨gs, 3, none⟩ (.int .i64 (T.picked + 1))).cell? ⟨bx, 2, none⟩ = some (.slice none 0 0) := blk_at HX3.out 2 rfl
  go_wp2_with (go_at_call 38; refine (sameShot38 _).mono ?_; rintro e w3 ⟨rfl, hb⟩)
  go_ret
  exact ⟨rfl, own1, Lib.hid (HG3.out.upd (P := fun _ => False) (fun e => e) (Upd.of_below' hb.out (fun _ _ => rfl))), Lib.hid (HU3.out.then (Upd.of_below' hb.out (fun _ _ => rfl)))⟩
set_option maxRecDepth 100000 in
set_option maxHeartbeats 4000000 in
theorem story33_last (own : Nat → Nat) (w : World) (gs n : Nat) (T : ST) (v : Value) (h : StAt own w gs n T v) (sum : Int) (hm : more T) (hlt : T.picked + 1 = (n : Int)) (hpos : 0 < T.id) (hn : n ≤ 12) (Av : Option Addr) (cv : Nat) (ps : List S40) (hS : StC k40 own w Av n ps) (hps : ∀ t, t < n → ps.getD t z40 = prt (T.hd.getD t 0)) :
    Calls Try.prog 33 #[.pointer (some ⟨gs, 0, none⟩), .int .i64 n, .int .u32 sum, .int .i64 2, .agg #[.int .i64 T.id, .int .u32 sum, .slice Av n cv]] w fun e w' => e = .returned (.bool true) ∧ ∃ own', Hid (StAt own' w' gs n T.pickd.over v) ∧ Hid (Upd (· = 2) own w own' w') := by
  obtain ⟨id, hid⟩ : ∃ id, id = T.id := ⟨_, rfl⟩
  obtain ⟨hdl, gh, hv, hh, hgh⟩ := h.hv hpos
  subst hv
  have Hid_ := Lib.hid hid
  have HS := Lib.hid hS
  have HPS := Lib.hid hps
  have Hpos := Lib.hid hpos
  have Hlt := Lib.hid hlt
  have hb1 : -1 ≤ T.picked := by omega
  have hb2 : T.picked ≤ 11 := by omega
  have Hhdl := Lib.hid hdl
  rw [← hid]
  clear hS hps hpos hid hh hgh hdl hlt
  have HX0 := Lib.hid (blk_new w (.cells #[.int .i64 id, .int .u32 sum, .slice Av n cv] 44))
  have HB0 : Hid (Below w.heap.size w (w.alloc (.cells #[.int .i64 id, .int .u32 sum, .slice Av n cv] 44))) := Lib.hid ((Below.refl _ _).alloc (Nat.le_refl _) _)
  have HG0 : Hid (StAt (fresh own w 3) (w.alloc (.cells #[.int .i64 id, .int .u32 sum, .slice Av n cv] 44)) gs n T (.slice (some ⟨gh, 0, none⟩) n n)) := Lib.hid (h.upd (P := fun _ => False) (fun e => e) (Upd.alloc _ 3))
  have HU0 : Hid (Upd (· = 2) own w (fresh own w 3) (w.alloc (.cells #[.int .i64 id, .int .u32 sum, .slice Av n cv] 44))) := Lib.hid (Upd.alloc _ 3)
  have HTX : Hid (fresh own w 3 w.heap.size = 3) := Lib.hid (fresh_new (Nat.le_refl _))
  obtain ⟨own1, hown1⟩ : ∃ own1 : Nat → Nat, own1 = fresh own w 3 := ⟨_, rfl⟩
  rw [← hown1] at HG0 HU0 HTX
  have hp0 : T.id ≠ 0 := fun h0 => hm (.inl h0)
  have k1 : (id == 0) = false := by rw [Hid_.out]; simpa using hp0
  have k2 : (T.picked == T.count) = false := by simpa using fun h' => hm (.inr h')
  clear h hm hown1 hp0
  go_enter Try.func33, Try.ntmps33
  go_upto_region 1 with (fail)
  generalize w.alloc (.cells #[.int .i64 id, .int .u32 sum, .slice Av n cv] 44) = w1 at *
  generalize w.heap.size = bx at *
  have q0 : w1.cell? ⟨gs, 0, none⟩ = some (.int .i64 id) := by rw [Hid_.out]; exact blk_at HG0.out.hb 0 rfl
  have q2 : w1.cell? ⟨gs, 2, none⟩ = some (.int .i64 T.count) := blk_at HG0.out.hb 2 rfl
  have q3 : w1.cell? ⟨gs, 3, none⟩ = some (.int .i64 T.picked) := blk_at HG0.out.hb 3 rfl
  go_cut [28] (fun v28 wx => v28 = .bool false ∧ Hid (Below w1.heap.size w1 wx))
  case first =>
    go_quiet (fail)
    go_wp2_with (fail)
    go_meet
    exact ⟨by rfl, Lib.hid (pw_below_drewN (Below.refl _ _) _)⟩
  case rest =>
  obtain ⟨rfl, HB2⟩ := hcut
  clear q0 q2 q3
  have hu2 : Upd (· = 2) own1 w1 own1 wc := Upd.of_below' HB2.out (fun _ _ => rfl)
  have HG2 : Hid (StAt own1 wc gs n T (.slice (some ⟨gh, 0, none⟩) n n)) := Lib.hid (HG0.out.upd (P := fun _ => False) (fun e => e) (Upd.of_below' HB2.out (fun _ _ => rfl)))
  have HU2 := Lib.hid (HU0.out.then hu2)
  have HX2 := Lib.hid (blk_below HX0.out HB2.out)
  have p3 : wc.cell? ⟨gs, 3, none⟩ = some (.int .i64 T.picked) := blk_at HG2.out.hb 3 rfl
  have z3 : wc.frozen? ⟨gs, 3, none⟩ = false := blk_frozen HG2.out.hb 3
  have HG3 : Hid (StAt own1 (wc.setCell ⟨gs, 3, none⟩ (.int .i64 (T.picked + 1))) gs n T.pickd (.slice (some ⟨gh, 0, none⟩) n n)) := Lib.hid (HG2.out.put 3 _ rfl rfl (fun h => h))
  have hu3 : Upd (· = 2) own1 wc own1 (wc.setCell ⟨gs, 3, none⟩ (.int .i64 (T.picked + 1))) := set_own HG2.out.og 3 _
  have HU3 := Lib.hid (HU2.out.then hu3)
  have HX3 := Lib.hid (hu3.blk HX2.out (by rw [HTX.out]; decide))
  clear hu2 hu3 HG0 HU0 HX0 HB2 HG2 HU2 HX2
  have g3 : (wc.setCell ⟨gs, 3, none⟩ (.int .i64 (T.picked + 1))).cell? ⟨gs, 3, none⟩ = some (.int .i64 (T.picked + 1)) := blk_at HG3.out.hb 3 rfl
  have k3 : decide (T.picked + 1 < (n : Int)) = false := decide_eq_false (by have := Hlt.out; omega)
  go_upto_region 6 with (fail)
  clear g3 k3 p3 z3
  generalize wc.setCell ⟨gs, 3, none⟩ (.int .i64 (T.picked + 1)) = w4 at *
  have g0 : w4.cell? ⟨gs, 0, none⟩ = some (.int .i64 id) := by rw [Hid_.out]; exact blk_at HG3.out.hb 0 rfl
  have x0 : w4.cell? ⟨bx, 0, none⟩ = some (.int .i64 id) := blk_at HX3.out 0 rfl
  have x1 : w4.cell? ⟨bx, 1, none⟩ = some (.int .u32 sum) := blk_at HX3.out 1 rfl
  have x2 : w4.cell? ⟨bx, 2, none⟩ = some (.slice Av n cv) := blk_at HX3.out 2 rfl
  go_cut [11] (fun v11 wx => v11 = .bool true ∧ Hid (Below w4.heap.size w4 wx))
  case first =>
    refine start_ (n := 25) (S := (fun w' => w'.cell? ⟨gs, 0, none⟩ = some (.int .i64 id) ∧ w'.cell? ⟨bx, 0, none⟩ = some (.int .i64 id) ∧ w'.cell? ⟨bx, 1, none⟩ = some (.int .u32 sum) ∧ w'.cell? ⟨bx, 2, none⟩ = some (.slice Av n cv))) (ds := []) #[false, false, false, false, false, false, false, false, false, false, false, false, false, false, false, false, false, false, false, false, false, false, false, false, false] (by kernel_rfl) rfl rfl ⟨g0, x0, x1, x2⟩ (fun hHeld => ?_)
    have HBq : Hid (Below w4.heap.size w4 w4.drew) := Lib.hid (Below.refl _ _).drew
    generalize w4.drew = W at *
    refine pure_ (i := 0) (N := some 56) (v := ?_) (a' := ?_) #[true, false, false, false, false, false, false, false, false, false, false, false, false, false, false, false, false, false, false, false, false, false, false, false, false] rfl rfl (by kernel_rfl) (fun _ _ _ h => h) (Or.inl ⟨by rfl, ?_⟩) ?_ ?_
    rotate_left
    · intro w'
      go_simp
      with_reducible rfl
    rotate_left
    · simp only [Act.put, List.setIfInBounds_toArray, List.set_cons_zero, List.set_cons_succ]
      rfl
    refine pure_ (i := 1) (N := some 57) (v := ?_) (a' := ?_) #[true, true, false, false, false, false, false, false, false, false, false, false, false, false, false, false, false, false, false, false, false, false, false, false, false] rfl rfl (by kernel_rfl) (fun _ _ _ h => h) (Or.inl ⟨by rfl, ?_⟩) ?_ ?_
    rotate_left
    · intro w'
      go_simp
      with_reducible rfl
    rotate_left
    · simp only [Act.put, List.setIfInBounds_toArray, List.set_cons_zero, List.set_cons_succ]
      rfl
    refine pure_ (i := 2) (N := some 58) (v := ?_) (a' := ?_) #[true, true, true, false, false, false, false, false, false, false, false, false, false, false, false, false, false, false, false, false, false, false, false, false, false] rfl rfl (by kernel_rfl) (fun _ _ _ h => h) (Or.inl ⟨by rfl, ?_⟩) ?_ ?_
    rotate_left
    · intro w'
      go_simp
      with_reducible rfl
    rotate_left
    · simp only [Act.put, List.setIfInBounds_toArray, List.set_cons_zero, List.set_cons_succ]
      rfl
    refine pure_ (i := 3) (N := some 59) (v := ?_) (a' := ?_) #[true, true, true, true, false, false, false, false, false, false, false, false, false, false, false, false, false, false, false, false, false, false, false, false, false] rfl rfl (by kernel_rfl) (fun _ _ _ h => h) (Or.inl ⟨by rfl, ?_⟩) ?_ ?_
    rotate_left
    · intro w'
      go_simp
      with_reducible rfl
    rotate_left
    · simp only [Act.put, List.setIfInBounds_toArray, List.set_cons_zero, List.set_cons_succ]
      rfl
    refine take_ (i := 4) (N := some 60) (v := ?_) (a' := ?_) #[true, true, true, true, true, false, false, false, false, false, false, false, false, false, false, false, false, false, false, false, false, false, false, false, false] rfl rfl (by kernel_rfl) (fun _ _ _ h => h) (Or.inl ⟨by rfl, ?_⟩) hHeld ?_ ?_
    rotate_left
    · rintro w' ⟨s0, s1, s2, s3⟩
      go_simp
      with_reducible rfl
    rotate_left
    · simp only [Act.put, List.setIfInBounds_toArray, List.set_cons_zero, List.set_cons_succ]
      rfl
    refine pure_ (i := 5) (N := some 61) (v := ?_) (a' := ?_) #[true, true, true, true, true, true, false, false, false, false, false, false, false, false, false, false, false, false, false, false, false, false, false, false, false] rfl rfl (by kernel_rfl) (fun _ _ _ h => h) (Or.inl ⟨by rfl, ?_⟩) ?_ ?_
    rotate_left
    · intro w'
      go_simp
      with_reducible rfl
    rotate_left
    · simp only [Act.put, List.setIfInBounds_toArray, List.set_cons_zero, List.set_cons_succ]
      rfl
    refine pure_ (i := 6) (N := some 62) (v := ?_) (a' := ?_) #[true, true, true, true, true, true, true, false, false, false, false, false, false, false, false, false, false, false, false, false, false, false, false, false, false] rfl rfl (by kernel_rfl) (fun _ _ _ h => h) (Or.inl ⟨by rfl, ?_⟩) ?_ ?_
    rotate_left
    · intro w'
      go_simp
      with_reducible rfl
    rotate_left
    · simp only [Act.put, List.setIfInBounds_toArray, List.set_cons_zero, List.set_cons_succ]
      rfl
    refine pure_ (i := 7) (N := some 63) (v := ?_) (a' := ?_) #[true, true, true, true, true, true, true, true, false, false, false, false, false, false, false, false, false, false, false, false, false, false, false, false, false] rfl rfl (by kernel_rfl) (fun _ _ _ h => h) (Or.inl ⟨by rfl, ?_⟩) ?_ ?_
    rotate_left
    · intro w'
      go_simp
      with_reducible rfl
    rotate_left
    · simp only [Act.put, List.setIfInBounds_toArray, List.set_cons_zero, List.set_cons_succ]
      rfl
    refine take_ (i := 8) (N := some 64) (v := ?_) (a' := ?_) #[true, true, true, true, true, true, true, true, true, false, false, false, false, false, false, false, false, false, false, false, false, false, false, false, false] rfl rfl (by kernel_rfl) (fun _ _ _ h => h) (Or.inl ⟨by rfl, ?_⟩) hHeld ?_ ?_
    rotate_left
    · rintro w' ⟨s0, s1, s2, s3⟩
      go_simp
      with_reducible rfl
    rotate_left
    · simp only [Act.put, List.setIfInBounds_toArray, List.set_cons_zero, List.set_cons_succ]
      rfl
    refine pure_ (i := 9) (N := some 65) (v := ?_) (a' := ?_) #[true, true, true, true, true, true, true, true, true, true, false, false, false, false, false, false, false, false, false, false, false, false, false, false, false] rfl rfl (by kernel_rfl) (fun _ _ _ h => h) (Or.inl ⟨by rfl, ?_⟩) ?_ ?_
    rotate_left
    · intro w'
      go_simp
      with_reducible rfl
    rotate_left
    · simp only [Act.put, List.setIfInBounds_toArray, List.set_cons_zero, List.set_cons_succ]
      rfl
    refine pure_ (i := 10) (N := some 66) (v := ?_) (a' := ?_) #[true, true, true, true, true, true, true, true, true, true, true, false, false, false, false, false, false, false, false, false, false, false, false, false, false] rfl rfl (by kernel_rfl) (fun _ _ _ h => h) (Or.inl ⟨by rfl, ?_⟩) ?_ ?_
    rotate_left
    · intro w'
      go_simp
      with_reducible rfl
    rotate_left
    · simp only [Act.put, List.setIfInBounds_toArray, List.set_cons_zero, List.set_cons_succ]
      rfl
    refine pure_ (i := 11) (N := some 67) (v := ?_) (a' := ?_) #[true, true, true, true, true, true, true, true, true, true, true, true, false, false, false, false, false, false, false, false, false, false, false, false, false] rfl rfl (by kernel_rfl) (fun _ _ _ h => h) (Or.inl ⟨by rfl, ?_⟩) ?_ ?_
    rotate_left
    · intro w'
      go_simp
      with_reducible rfl
    rotate_left
    · simp only [Act.put, List.setIfInBounds_toArray, List.set_cons_zero, List.set_cons_succ]
      rfl
    refine pure_ (i := 12) (N := some 68) (v := ?_) (a' := ?_) #[true, true, true, true, true, true, true, true, true, true, true, true, true, false, false, false, false, false, false, false, false, false, false, false, false] rfl rfl (by kernel_rfl) (fun _ _ _ h => h) (Or.inl ⟨by rfl, ?_⟩) ?_ ?_
    rotate_left
    · intro w'
      go_simp
      with_reducible rfl
    rotate_left
    · simp only [Act.put, List.setIfInBounds_toArray, List.set_cons_zero, List.set_cons_succ]
      rfl
    refine take_ (i := 13) (N := some 69) (v := ?_) (a' := ?_) #[true, true, true, true, true, true, true, true, true, true, true, true, true, true, false, false, false, false, false, false, false, false, false, false, false] rfl rfl (by kernel_rfl) (fun _ _ _ h => h) (Or.inl ⟨by rfl, ?_⟩) hHeld ?_ ?_
    rotate_left
    · rintro w' ⟨s0, s1, s2, s3⟩
      go_simp
      with_reducible rfl
    rotate_left
    · simp only [Act.put, List.setIfInBounds_toArray, List.set_cons_zero, List.set_cons_succ]
      rfl
    refine pure_ (i := 14) (N := some 70) (v := ?_) (a' := ?_) #[true, true, true, true, true, true, true, true, true, true, true, true, true, true, true, false, false, false, false, false, false, false, false, false, false] rfl rfl (by kernel_rfl) (fun _ _ _ h => h) (Or.inl ⟨by rfl, ?_⟩) ?_ ?_
    rotate_left
    · intro w'
      go_simp
      with_reducible rfl
    rotate_left
    · simp only [Act.put, List.setIfInBounds_toArray, List.set_cons_zero, List.set_cons_succ]
      rfl
    refine pure_ (i := 15) (N := some 71) (v := ?_) (a' := ?_) #[true, true, true, true, true, true, true, true, true, true, true, true, true, true, true, true, false, false, false, false, false, false, false, false, false] rfl rfl (by kernel_rfl) (fun _ _ _ h => h) (Or.inl ⟨by rfl, ?_⟩) ?_ ?_
    rotate_left
    · intro w'
      go_simp
      with_reducible rfl
    rotate_left
    · simp only [Act.put, List.setIfInBounds_toArray, List.set_cons_zero, List.set_cons_succ]
      rfl
    refine pure_ (i := 16) (N := some 72) (v := ?_) (a' := ?_) #[true, true, true, true, true, true, true, true, true, true, true, true, true, true, true, true, true, false, false, false, false, false, false, false, false] rfl rfl (by kernel_rfl) (fun _ _ _ h => h) (Or.inl ⟨by rfl, ?_⟩) ?_ ?_
    rotate_left
    · intro w'
      go_simp
      with_reducible rfl
    rotate_left
    · simp only [Act.put, List.setIfInBounds_toArray, List.set_cons_zero, List.set_cons_succ]
      rfl
    refine pure_ (i := 17) (N := some 73) (v := ?_) (a' := ?_) #[true, true, true, true, true, true, true, true, true, true, true, true, true, true, true, true, true, true, false, false, false, false, false, false, false] rfl rfl (by kernel_rfl) (fun _ _ _ h => h) (Or.inl ⟨by rfl, ?_⟩) ?_ ?_
    rotate_left
    · intro w'
      go_simp
      with_reducible rfl
    rotate_left
    · simp only [Act.put, List.setIfInBounds_toArray, List.set_cons_zero, List.set_cons_succ]
      rfl
    refine pure_ (i := 18) (N := some 74) (v := ?_) (a' := ?_) #[true, true, true, true, true, true, true, true, true, true, true, true, true, true, true, true, true, true, true, false, false, false, false, false, false] rfl rfl (by kernel_rfl) (fun _ _ _ h => h) (Or.inl ⟨by rfl, ?_⟩) ?_ ?_
    rotate_left
    · intro w'
      go_simp
      with_reducible rfl
    rotate_left
    · simp only [Act.put, List.setIfInBounds_toArray, List.set_cons_zero, List.set_cons_succ]
      rfl
    refine take_ (i := 19) (N := some 75) (v := ?_) (a' := ?_) #[true, true, true, true, true, true, true, true, true, true, true, true, true, true, true, true, true, true, true, true, false, false, false, false, false] rfl rfl (by kernel_rfl) (fun _ _ _ h => h) (Or.inl ⟨by rfl, ?_⟩) hHeld ?_ ?_
    rotate_left
    · rintro w' ⟨s0, s1, s2, s3⟩
      go_simp
      with_reducible rfl
    rotate_left
    · simp only [Act.put, List.setIfInBounds_toArray, List.set_cons_zero, List.set_cons_succ]
      rfl
    refine pure_ (i := 20) (N := some 76) (v := ?_) (a' := ?_) #[true, true, true, true, true, true, true, true, true, true, true, true, true, true, true, true, true, true, true, true, true, false, false, false, false] rfl rfl (by kernel_rfl) (fun _ _ _ h => h) (Or.inl ⟨by rfl, ?_⟩) ?_ ?_
    rotate_left
    · intro w'
      go_simp
      with_reducible rfl
    rotate_left
    · simp only [Act.put, List.setIfInBounds_toArray, List.set_cons_zero, List.set_cons_succ]
      rfl
    refine pure_ (i := 21) (N := some 77) (v := ?_) (a' := ?_) #[true, true, true, true, true, true, true, true, true, true, true, true, true, true, true, true, true, true, true, true, true, true, false, false, false] rfl rfl (by kernel_rfl) (fun _ _ _ h => h) (Or.inl ⟨by rfl, ?_⟩) ?_ ?_
    rotate_left
    · intro w'
      go_simp
      with_reducible rfl
    rotate_left
    · simp only [Act.put, List.setIfInBounds_toArray, List.set_cons_zero, List.set_cons_succ]
      rfl
    refine pure_ (i := 22) (N := some 78) (v := ?_) (a' := ?_) #[true, true, true, true, true, true, true, true, true, true, true, true, true, true, true, true, true, true, true, true, true, true, true, false, false] rfl rfl (by kernel_rfl) (fun _ _ _ h => h) (Or.inl ⟨by rfl, ?_⟩) ?_ ?_
    rotate_left
    · intro w'
      go_simp
      with_reducible rfl
    rotate_left
    · simp only [Act.put, List.setIfInBounds_toArray, List.set_cons_zero, List.set_cons_succ]
      rfl
    refine pure_ (i := 23) (N := some 79) (v := ?_) (a' := ?_) #[true, true, true, true, true, true, true, true, true, true, true, true, true, true, true, true, true, true, true, true, true, true, true, true, false] rfl rfl (by kernel_rfl) (fun _ _ _ h => h) (Or.inl ⟨by rfl, ?_⟩) ?_ ?_
    rotate_left
    · intro w'
      go_simp
      with_reducible rfl
    rotate_left
    · simp only [Act.put, List.setIfInBounds_toArray, List.set_cons_zero, List.set_cons_succ]
      rfl
    refine pure_ (i := 24) (N := some 11) (v := ?_) (a' := ?_) #[true, true, true, true, true, true, true, true, true, true, true, true, true, true, true, true, true, true, true, true, true, true, true, true, true] rfl rfl (by kernel_rfl) (fun _ _ _ h => h) (Or.inl ⟨by rfl, ?_⟩) ?_ ?_
    rotate_left
    · intro w'
      go_simp
      with_reducible rfl
    rotate_left
    · simp only [Act.put, List.setIfInBounds_toArray, List.set_cons_zero, List.set_cons_succ]
      rfl
    refine done_ (by kernel_rfl) ?_
    go_wp2_with (fail)
    go_meet
    exact ⟨by rfl, HBq⟩
  case rest =>
  obtain ⟨rfl, HB5⟩ := hcut
  clear g0 x0 x1 x2
  have hu5 : Upd (· = 2) own1 w4 own1 wc := Upd.of_below' HB5.out (fun _ _ => rfl)
  have HG5 : Hid (StAt own1 wc gs n T.pickd (.slice (some ⟨gh, 0, none⟩) n n)) := Lib.hid (HG3.out.upd (P := fun _ => False) (fun e => e) (Upd.of_below' HB5.out (fun _ _ => rfl)))
  have HU5 := Lib.hid (HU3.out.then hu5)
  have HX5 := Lib.hid (blk_below HX3.out HB5.out)
  have y0 : wc.cell? ⟨gs, 0, none⟩ = some (.int .i64 id) := by rw [Hid_.out]; exact blk_at HG5.out.hb 0 rfl
  have z0 : wc.frozen? ⟨gs, 0, none⟩ = false := blk_frozen HG5.out.hb 0
  obtain ⟨-, gh', he, hh5, hgh5⟩ := HG5.out.hv (show 0 < T.id from Hpos.out)
  obtain rfl : gh = gh' := by injection he with he; injection he with he; injection he
  have hu6 : Upd (· = 2) own1 wc own1 (wc.setCell ⟨gs, 0, none⟩ (.int .i64 0)) := set_own HG5.out.og 0 _
  have HU6 := Lib.hid (HU5.out.then hu6)
  have HX6 := Lib.hid (hu6.blk HX5.out (by rw [HTX.out]; decide))
  have HG6 : Hid (StAt own1 (wc.setCell ⟨gs, 0, none⟩ (.int .i64 0)) gs n T.pickd.over (.slice (some ⟨gh, 0, none⟩) n n)) := Lib.hid (HG5.out.put 0 _ rfl rfl (fun h => absurd h (by show ¬ (0 : Int) < 0; decide)))
  have HH6 : Hid ((wc.setCell ⟨gs, 0, none⟩ (.int .i64 0)).heap[gh]? = some (.cells (whC T.hd) 3 (0, 0))) := Lib.hid ((set_far _ _ _ (blk_ne hh5 HG5.out.hb (by decide))).trans hh5)
  have HS6 := Lib.hid (HS.out.upd (S := (· = 2)) (by decide) HU6.out)
  clear hu5 hu6 he hh5 hgh5 HG3 HU3 HX3 HB5 HG5 HU5 HX5 HS
  go_upto_block 0 with (fail)
  clear y0 z0
  generalize wc.setCell ⟨gs, 0, none⟩ (.int .i64 0) = w6 at *
  go_cut [11] (fun v11 wx => v11 = .bool true ∧ Hid (Below w6.heap.size w6 wx))
  case first =>
    go_wp2_with (fail)
    go_loopw [11, 12] (fun v11 v12 wr => ∃ k : Nat, k ≤ n ∧ v12 = .int .i64 k ∧ v11 = .bool true ∧ Hid (Below w6.heap.size w6 wr)) (fun _ v12 _ => n - (intOf v12).toNat)
    case atStart => exact ⟨0, Nat.zero_le _, rfl, rfl, Lib.hid (Below.refl _ _)⟩
    case round =>
      obtain ⟨k, hk, rfl, rfl, HB⟩ := hrel
      by_cases hlk : k < n
      · obtain ⟨ad, A1, c1, A2, c2, A3, c3, hA, e0, e1, e2, e3, hl1, E1, hl2, E2, hl3, E3⟩ := at_T40 (Kd.C_below HS6.out.now HB.out) (k : Int) (by omega) (by omega)
        have hx : rd_T40 ps (k : Int) = prt (T.hd.getD k 0) := by unfold rd_T40; rw [Int.toNat_natCast]; exact HPS.out k hlk
        have hs2 : wr.cell? ⟨bx, 2, none⟩ = some (.slice Av n cv) := pw_cell_below HB.out (blk_at HX6.out 2 rfl)
        have hg1 : wr.cell? ⟨gs, 1, none⟩ = some (.slice (some ⟨gh, 0, none⟩) n n) := pw_cell_below HB.out (blk_at HG6.out.hb 1 rfl)
        have hgk : wr.cell? ⟨gh, k, none⟩ = some (.int .i64 (T.hd.getD k 0)) := pw_cell_below HB.out (blk_at HH6.out k (whC_get _ _ (by rw [Hhdl.out]; exact hlk)))
        rw [hA] at hs2
        generalize rd_T40 ps (k : Int) = x at *
        generalize T.hd.getD k 0 = y at *
        rw [Int.toNat_natCast] at e0 e1 e2 e3
        have Hx := Lib.hid hx
        have HLE := Lib.hid hl1
        replace E1 := Lib.hid E1
        replace E2 := Lib.hid E2
        replace E3 := Lib.hid E3
        clear hx hl1 hl2 hl3 hA
        go_upto_region 11 with (fail)
        refine start_ (n := 15) (S := (fun w' => w'.cell? ⟨bx, 2, none⟩ = some (.slice (some ad) n cv) ∧ w'.cell? (ad.add (k * 4)) = some (.int .i64 x.f0.f0) ∧ w'.cell? ⟨(ad.add (k * 4)).block, (ad.add (k * 4)).off + 1, none⟩ = some (.slice A1 x.f0.f1.length c1) ∧ w'.cell? ⟨(ad.add (k * 4)).block, (ad.add (k * 4)).off + 2, none⟩ = some (.slice A2 x.f1.length c2) ∧ w'.cell? ⟨(ad.add (k * 4)).block, (ad.add (k * 4)).off + 3, none⟩ = some (.slice A3 x.f2.length c3) ∧ w'.cell? ⟨gs, 1, none⟩ = some (.slice (some ⟨gh, 0, none⟩) n n) ∧ w'.cell? ⟨gh, k, none⟩ = some (.int .i64 y))) (ds := []) #[false, false, false, false, false, false, false, false, false, false, false, false, false, false, false] (by kernel_rfl) rfl rfl ⟨hs2, e0, e1, e2, e3, hg1, hgk⟩ (fun hHeld => ?_)
        have HBw : Hid (Below wr.heap.size wr wr.drew) := Lib.hid (Below.refl _ _).drew
        generalize wr.drew = W at *
        refine pure_ (i := 0) (N := some 91) (v := ?_) (a' := ?_) #[true, false, false, false, false, false, false, false, false, false, false, false, false, false, false] rfl rfl (by kernel_rfl) (fun _ _ _ h => h) (Or.inl ⟨by rfl, ?_⟩) ?_ ?_
        rotate_left
        · intro w'
          go_simp
          with_reducible rfl
        rotate_left
        · simp only [Act.put, List.setIfInBounds_toArray, List.set_cons_zero, List.set_cons_succ]
          rfl
        refine take_ (i := 1) (N := some 92) (v := ?_) (a' := ?_) #[true, true, false, false, false, false, false, false, false, false, false, false, false, false, false] rfl rfl (by kernel_rfl) (fun _ _ _ h => h) (Or.inl ⟨by rfl, ?_⟩) hHeld ?_ ?_
        rotate_left
        · rintro w' ⟨s0, s1, s2, s3, s4, s5, s6⟩
          go_simp
          with_reducible rfl
        rotate_left
        · simp only [Act.put, List.setIfInBounds_toArray, List.set_cons_zero, List.set_cons_succ]
          rfl
        refine pure_ (i := 2) (N := some 93) (v := ?_) (a' := ?_) #[true, true, true, false, false, false, false, false, false, false, false, false, false, false, false] rfl rfl (by kernel_rfl) (fun _ _ _ h => h) (Or.inl ⟨by rfl, ?_⟩) ?_ ?_
        rotate_left
        · intro w'
          go_simp
          with_reducible rfl
        rotate_left
        · simp only [Act.put, List.setIfInBounds_toArray, List.set_cons_zero, List.set_cons_succ]
          rfl
        refine pure_ (i := 3) (N := some 94) (v := ?_) (a' := ?_) #[true, true, true, true, false, false, false, false, false, false, false, false, false, false, false] rfl rfl (by kernel_rfl) (fun _ _ _ h => h) (Or.inl ⟨by rfl, ?_⟩) ?_ ?_
        rotate_left
        · intro w'
          go_simp
          with_reducible rfl
        rotate_left
        · simp only [Act.put, List.setIfInBounds_toArray, List.set_cons_zero, List.set_cons_succ]
          rfl
        refine take_ (i := 4) (N := some 95) (v := ?_) (a' := ?_) #[true, true, true, true, true, false, false, false, false, false, false, false, false, false, false] rfl rfl (by kernel_rfl) (fun _ _ _ h => h) (Or.inl ⟨by rfl, ?_⟩) hHeld ?_ ?_
        rotate_left
        · rintro w' ⟨s0, s1, s2, s3, s4, s5, s6⟩
          go_simp
          with_reducible rfl
        rotate_left
        · simp only [Act.put, List.setIfInBounds_toArray, List.set_cons_zero, List.set_cons_succ]
          rfl
        refine pure_ (i := 5) (N := some 96) (v := ?_) (a' := ?_) #[true, true, true, true, true, true, false, false, false, false, false, false, false, false, false] rfl rfl (by kernel_rfl) (fun _ _ _ h => h) (Or.inl ⟨by rfl, ?_⟩) ?_ ?_
        rotate_left
        · intro w'
          go_simp
          with_reducible rfl
        rotate_left
        · simp only [Act.put, List.setIfInBounds_toArray, List.set_cons_zero, List.set_cons_succ]
          rfl
        refine pure_ (i := 6) (N := some 97) (v := ?_) (a' := ?_) #[true, true, true, true, true, true, true, false, false, false, false, false, false, false, false] rfl rfl (by kernel_rfl) (fun _ _ _ h => h) (Or.inl ⟨by rfl, ?_⟩) ?_ ?_
        rotate_left
        · intro w'
          go_simp
          with_reducible rfl
        rotate_left
        · simp only [Act.put, List.setIfInBounds_toArray, List.set_cons_zero, List.set_cons_succ]
          rfl
        refine pure_ (i := 7) (N := some 98) (v := ?_) (a' := ?_) #[true, true, true, true, true, true, true, true, false, false, false, false, false, false, false] rfl rfl (by kernel_rfl) (fun _ _ _ h => h) (Or.inl ⟨by rfl, ?_⟩) ?_ ?_
        rotate_left
        · intro w'
          go_simp
          with_reducible rfl
        rotate_left
        · simp only [Act.put, List.setIfInBounds_toArray, List.set_cons_zero, List.set_cons_succ]
          rfl
        refine take_ (i := 8) (N := some 99) (v := ?_) (a' := ?_) #[true, true, true, true, true, true, true, true, true, false, false, false, false, false, false] rfl rfl (by kernel_rfl) (fun _ _ _ h => h) (Or.inl ⟨by rfl, ?_⟩) hHeld ?_ ?_
        rotate_left
        · rintro w' ⟨s0, s1, s2, s3, s4, s5, s6⟩
          go_simp
          with_reducible rfl
        rotate_left
        · simp only [Act.put, List.setIfInBounds_toArray, List.set_cons_zero, List.set_cons_succ]
          rfl
        refine pure_ (i := 9) (N := some 100) (v := ?_) (a' := ?_) #[true, true, true, true, true, true, true, true, true, true, false, false, false, false, false] rfl rfl (by kernel_rfl) (fun _ _ _ h => h) (Or.inl ⟨by rfl, ?_⟩) ?_ ?_
        rotate_left
        · intro w'
          go_simp
          with_reducible rfl
        rotate_left
        · simp only [Act.put, List.setIfInBounds_toArray, List.set_cons_zero, List.set_cons_succ]
          rfl
        refine pure_ (i := 10) (N := some 101) (v := ?_) (a' := ?_) #[true, true, true, true, true, true, true, true, true, true, true, false, false, false, false] rfl rfl (by kernel_rfl) (fun _ _ _ h => h) (Or.inl ⟨by rfl, ?_⟩) ?_ ?_
        rotate_left
        · intro w'
          go_simp
          with_reducible rfl
        rotate_left
        · simp only [Act.put, List.setIfInBounds_toArray, List.set_cons_zero, List.set_cons_succ]
          rfl
        refine take_ (i := 11) (N := some 102) (v := ?_) (a' := ?_) #[true, true, true, true, true, true, true, true, true, true, true, true, false, false, false] rfl rfl (by kernel_rfl) (fun _ _ _ h => h) (Or.inl ⟨by rfl, ?_⟩) hHeld ?_ ?_
        rotate_left
        · rintro w' ⟨s0, s1, s2, s3, s4, s5, s6⟩
          go_simp
          with_reducible rfl
        rotate_left
        · simp only [Act.put, List.setIfInBounds_toArray, List.set_cons_zero, List.set_cons_succ]
          rfl
        refine one_ (i := 12) (N := some 103) #[true, true, true, true, true, true, true, true, true, true, true, true, true, false, false] rfl rfl (by kernel_rfl) (by decide) (fun K hK => ?_)
        refine goes_ Try.func11 (by kernel_rfl) rfl #[.int .i64 y] (by rfl) rfl rfl (by simp only [List.map_toArray, List.map_cons, List.map_nil]; rfl) ?_
        refine (part11 y W).mono ?_
        rintro e w1 ⟨B1, d1, B2, d2, B3, d3, rfl, D1, D2, D3, hd1, hb⟩
        rw [← Hx.out] at D1 D2 D3 hd1 ⊢
        refine ⟨_, rfl, ?_⟩
        have HBx := Lib.hid (HBw.out.trans (hb.out.mono HBw.out.size))
        refine hK.out _ _ ⟨pw_cell_below hb.out hHeld.1, pw_cell_below hb.out hHeld.2.1, pw_cell_below hb.out hHeld.2.2.1, pw_cell_below hb.out hHeld.2.2.2.1, pw_cell_below hb.out hHeld.2.2.2.2.1, pw_cell_below hb.out hHeld.2.2.2.2.2.1, pw_cell_below hb.out hHeld.2.2.2.2.2.2⟩ (fun hHeld => ?_)
        clear hK K hb HBw
        refine norm_ (a' := ?_) ?_ ?_
        rotate_left
        · show Act.put _ (some 103) _ = _
          simp only [Act.put, List.setIfInBounds_toArray, List.set_cons_zero, List.set_cons_succ]
          rfl
        refine one_ (i := 13) (N := some 104) #[true, true, true, true, true, true, true, true, true, true, true, true, true, true, false] rfl rfl (by kernel_rfl) (by decide) (fun K hK => ?_)
        refine goes_ Try.func13 (by kernel_rfl) rfl #[.agg #[.int .i64 x.f0.f0, .slice A1 x.f0.f1.length c1, .slice A2 x.f1.length c2, .slice A3 x.f2.length c3], .agg #[.int .i64 x.f0.f0, .slice B1 x.f0.f1.length d1, .slice B2 x.f1.length d2, .slice B3 x.f2.length d3]] (by rfl) rfl rfl (by simp only [List.map_toArray, List.map_cons, List.map_nil]; rfl) ?_
        refine (same13 x.f0 x.f1 x.f2 A1 c1 A2 c2 A3 c3 B1 d1 B2 d2 B3 d3 w1 (Kd.C_below E1.out HBx.out) (Kd.C_below E2.out HBx.out) (Kd.C_below E3.out HBx.out) D1.out D2.out D3.out HLE.out hd1.out (by rw [Hx.out]; simp [prt, partsC]) (by rw [Hx.out]; intro y hy; simp [prt] at hy; subst hy; simp) (by rw [Hx.out]; intro z hz y hy; simp [prt] at hz; subst hz; simp at hy; subst hy; simp)).mono ?_
        rintro e w2 ⟨rfl, hb⟩
        refine ⟨_, rfl, ?_⟩
        have HB2 := Lib.hid (HBx.out.trans (hb.out.mono HBx.out.size))
        refine hK.out _ _ ⟨pw_cell_below hb.out hHeld.1, pw_cell_below hb.out hHeld.2.1, pw_cell_below hb.out hHeld.2.2.1, pw_cell_below hb.out hHeld.2.2.2.1, pw_cell_below hb.out hHeld.2.2.2.2.1, pw_cell_below hb.out hHeld.2.2.2.2.2.1, pw_cell_below hb.out hHeld.2.2.2.2.2.2⟩ (fun hHeld => ?_)
        clear hK K hb HBx D1 D2 D3 hd1
        refine norm_ (a' := ?_) ?_ ?_
        rotate_left
        · show Act.put _ (some 104) _ = _
          simp only [Act.put, List.setIfInBounds_toArray, List.set_cons_zero, List.set_cons_succ]
          rfl
        refine pure_ (i := 14) (N := some 11) (v := ?_) (a' := ?_) #[true, true, true, true, true, true, true, true, true, true, true, true, true, true, true] rfl rfl (by kernel_rfl) (fun _ _ _ h => h) (Or.inl ⟨by rfl, ?_⟩) ?_ ?_
        rotate_left
        · intro w'
          go_simp
          with_reducible rfl
        rotate_left
        · simp only [Act.put, List.setIfInBounds_toArray, List.set_cons_zero, List.set_cons_succ]
          rfl
        refine done_ (by kernel_rfl) ?_
        clear hHeld e0 e1 e2 e3 hs2 hg1 hgk
        go_wp2_with (fail)
        go_roundw
        case rel => exact ⟨k + 1, by omega, by go_num, rfl, Lib.hid (HB.out.trans (HB2.out.mono HB.out.size))⟩
        case measure => simp [intOf]; omega
      · go_wp2_with (fail)
        go_meet
        exact ⟨rfl, HB⟩
  case rest =>
  obtain ⟨rfl, HB7⟩ := hcut
  go_wp2_with (fail)
  go_ret
  exact ⟨rfl, own1, Lib.hid (HG6.out.upd (P := fun _ => False) (fun e => e) (Upd.of_below' HB7.out (fun _ _ => rfl))), Lib.hid (HU6.out.then (Upd.of_below' HB7.out (fun _ _ => rfl)))⟩
end Go.Proofs.Ytcbaiplamaopeaa.PPostShots
