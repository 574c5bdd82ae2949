/- Full, New, Take, Close. -/
import Derived.Test.YtcbfddhdaamimaaLF
namespace Go.Proofs.Ytcbfddhdaamimaa.PLaneFifo
open Go.RowKit Go.Conc Go.Proofs.YtcbfddhdaamimaaW.PrintWords Go.Proofs.YtcbfddhdaamimaaW.PrintLast
set_option linter.unusedVariables false
set_option linter.unusedSimpArgs false

/-- The lane came to these items. -/
def LaneTo (own : Nat → Nat) (w : World) (g : Nat) (rm : Int) (sh : Bool) (l : List Pr) (w' : World) : Prop := ∃ own' c cap s r, LaneAt own' w' g rm sh l c cap s r ∧ Upd (· = 1) own w own' w'
def full (rm : Int) (l : List Pr) : Bool := decide (0 < rm) && decide (rm ≤ recs l)
theorem full17 (own : Nat → Nat) (w : World) (g c cap s r : Nat) (rm : Int) (l : List Pr) (h : LaneAt own w g rm false l c cap s r) :
    Calls Try.prog 17 #[.pointer (some ⟨g, 0, none⟩)] w fun e w' => e = .returned (.bool (full rm l)) ∧ Hid (Below w.heap.size w w') := by
  have q1 : w.cell? ⟨g, 1, none⟩ = some (.int .i64 (recs l)) := blk_at h.hb 1 rfl
  have q2 : w.cell? ⟨g, 2, none⟩ = some (.int .i64 rm) := blk_at h.hb 2 rfl
  have q3 : w.cell? ⟨g, 3, none⟩ = some (.bool false) := blk_at h.hb 3 rfl
  clear h
  unfold full
  by_cases h0 : 0 < rm
  · have d0 : decide (0 < rm) = true := decide_eq_true h0
    by_cases h1 : rm ≤ recs l
    · have d1 : decide (rm ≤ recs l) = true := decide_eq_true h1
      go_enter Try.func17, Try.ntmps17
      go_wp2_with (fail)
      go_quiet (fail)
      go_wp2_with (fail)
      go_ret
      exact ⟨by simp [h0, h1], Lib.hid (pw_below_drewN (Below.refl _ _) _)⟩
    · have d1 : decide (rm ≤ recs l) = false := decide_eq_false h1
      go_enter Try.func17, Try.ntmps17
      go_wp2_with (fail)
      go_quiet (fail)
      go_wp2_with (fail)
      go_ret
      exact ⟨by simp [h0, h1], Lib.hid (pw_below_drewN (Below.refl _ _) _)⟩
  · have d0 : decide (0 < rm) = false := decide_eq_false h0
    go_enter Try.func17, Try.ntmps17
    go_wp2_with (fail)
    go_quiet (fail)
    go_wp2_with (fail)
    go_ret
    exact ⟨by rw [d0]; rfl, Lib.hid (pw_below_drewN (Below.refl _ _) _)⟩
theorem new7_ok (own : Nat → Nat) (w : World) (rm : Int) (h0 : 0 ≤ rm) (h1 : rm ≤ 8) :
    Calls Try.prog 7 #[.int .i64 rm] w fun e w' => ∃ g c own' cap s r, e = .returned (.tuple #[.pointer (some ⟨g, 0, none⟩), .int .i64 0]) ∧ Hid (LaneAt own' w' g rm false [] c cap s r) ∧ Hid (Upd (fun _ => False) own w own' w') ∧ w.heap.size ≤ g := by
  have d0 : decide (rm < 0) = false := decide_eq_false (by omega)
  have d1 : decide (8 < rm) = false := decide_eq_false (by omega)
  have hmk : (Instr.makeChan 66 (.int .i64 4)).run Try.prog w = .ok (.chan (some w.heap.size)) (w.alloc (.chan 4 #[] false 0 0 false)) := mk_chan 0 (by omega) w
  go_enter Try.func7, Try.ntmps7
  go_wp2_with (fail)
  go_ret2
  refine ⟨w.heap.size + 1, w.heap.size, fun k => if k < w.heap.size then own k else 1, 4, 0, 0, rfl, Lib.hid ⟨?_, ?_, (fun p hp => by cases hp), ?_, ?_⟩, Lib.hid (Upd.of_below' (((Below.refl _ _).alloc (Nat.le_refl _) _).alloc (by simp) _) (fun k hk => if_pos hk)), by omega⟩
  · have := blk_new (w.alloc (.chan 4 #[] false 0 0 false)) (.cells #[.chan (some w.heap.size), .int .i64 0, .int .i64 rm, .bool false] 68)
    simp only [World.size_alloc] at this
    exact this
  · exact blk_alloc (blk_new w _) _
  · exact if_neg (by omega)
  · exact if_neg (by omega)
theorem new7_no (w : World) (rm : Int) (h : rm < 0 ∨ 8 < rm) :
    Calls Try.prog 7 #[.int .i64 rm] w fun e w' => e = .returned (.tuple #[.pointer none, .int .i64 50]) ∧ w = w' := by
  by_cases h0 : rm < 0
  · have d0 : decide (rm < 0) = true := decide_eq_true h0
    go_enter Try.func7, Try.ntmps7
    go_wp2_with (fail)
    go_ret2
    exact ⟨rfl, rfl⟩
  · have d0 : decide (rm < 0) = false := decide_eq_false h0
    have d1 : decide (8 < rm) = true := decide_eq_true (by omega)
    go_enter Try.func7, Try.ntmps7
    go_wp2_with (fail)
    go_ret2
    exact ⟨rfl, rfl⟩
theorem recs_cons (p : Pr) (l : List Pr) : recs (p :: l) = recs l + if p.1.f0 = 0 then 1 else 0 := by
  unfold recs
  by_cases h : p.1.f0 = 0 <;> simp [List.filter_cons, h]
set_option maxRecDepth 100000 in
set_option maxHeartbeats 4000000 in
theorem take12_none (own : Nat → Nat) (w : World) (g c cap s r : Nat) (rm : Int) (sh : Bool) (h : LaneAt own w g rm sh [] c cap s r) :
    Calls Try.prog 12 #[.pointer (some ⟨g, 0, none⟩)] w fun e w' => e = .returned (.tuple #[.agg #[.int .i64 0, .string ⟨#[]⟩, .int .i64 0, .int .i64 0, .string ⟨#[]⟩, .slice none 0 0, .slice none 0 0], .bool false]) ∧ Hid (Below w.heap.size w w') := by
  have q0 : (w.alloc (.cells #[.int .i64 0, .string ⟨#[]⟩, .int .i64 0, .int .i64 0, .string ⟨#[]⟩, .slice none 0 0, .slice none 0 0] 35)).cell? ⟨g, 0, none⟩ = some (.chan (some c)) := blk_at (blk_alloc h.hb _) 0 rfl
  have hz : Hid ((w.alloc (.cells #[.int .i64 0, .string ⟨#[]⟩, .int .i64 0, .int .i64 0, .string ⟨#[]⟩, .slice none 0 0, .slice none 0 0] 35)).heap[w.heap.size]? = some (.cells #[.int .i64 0, .string ⟨#[]⟩, .int .i64 0, .int .i64 0, .string ⟨#[]⟩, .slice none 0 0, .slice none 0 0] 35 (0, 0))) := blk_new _ _
  have hbl : Hid (Below w.heap.size w (w.alloc (.cells #[.int .i64 0, .string ⟨#[]⟩, .int .i64 0, .int .i64 0, .string ⟨#[]⟩, .slice none 0 0, .slice none 0 0] 35))) := (Below.refl _ _).alloc (Nat.le_refl _) _
  have HC := Lib.hid (blk_alloc h.hc (.cells #[.int .i64 0, .string ⟨#[]⟩, .int .i64 0, .int .i64 0, .string ⟨#[]⟩, .slice none 0 0, .slice none 0 0] 35))
  clear h
  go_enter Try.func12, Try.ntmps12
  go_upto_region 2 with (fail)
  clear q0
  generalize w.alloc (.cells #[.int .i64 0, .string ⟨#[]⟩, .int .i64 0, .int .i64 0, .string ⟨#[]⟩, .slice none 0 0, .slice none 0 0] 35) = w1 at *
  have d0 : w1.cell? ⟨w.heap.size, 0, none⟩ = some (.int .i64 0) := blk_at hz.out 0 rfl
  have d1 : w1.cell? ⟨w.heap.size, 1, none⟩ = some (.string ⟨#[]⟩) := blk_at hz.out 1 rfl
  have d2 : w1.cell? ⟨w.heap.size, 2, none⟩ = some (.int .i64 0) := blk_at hz.out 2 rfl
  have d3 : w1.cell? ⟨w.heap.size, 3, none⟩ = some (.int .i64 0) := blk_at hz.out 3 rfl
  have d4 : w1.cell? ⟨w.heap.size, 4, none⟩ = some (.string ⟨#[]⟩) := blk_at hz.out 4 rfl
  have d5 : w1.cell? ⟨w.heap.size, 5, none⟩ = some (.slice none 0 0) := blk_at hz.out 5 rfl
  have d6 : w1.cell? ⟨w.heap.size, 6, none⟩ = some (.slice none 0 0) := blk_at hz.out 6 rfl
  have g0 : w1.frozen? ⟨w.heap.size, 0, none⟩ = false := blk_frozen hz.out 0
  have g1 : w1.frozen? ⟨w.heap.size, 1, none⟩ = false := blk_frozen hz.out 1
  have g2 : w1.frozen? ⟨w.heap.size, 2, none⟩ = false := blk_frozen hz.out 2
  have g3 : w1.frozen? ⟨w.heap.size, 3, none⟩ = false := blk_frozen hz.out 3
  have g4 : w1.frozen? ⟨w.heap.size, 4, none⟩ = false := blk_frozen hz.out 4
  have g5 : w1.frozen? ⟨w.heap.size, 5, none⟩ = false := blk_frozen hz.out 5
  have g6 : w1.frozen? ⟨w.heap.size, 6, none⟩ = false := blk_frozen hz.out 6
  have hlt1 : w.heap.size < w1.heap.size := blk_lt hz.out
  refine sem_first ?_
  cases sh with
  | false =>
    refine sem_sel_none (z := .agg #[.int .i64 0, .string ⟨#[]⟩, .int .i64 0, .int .i64 0, .string ⟨#[]⟩, .slice none 0 0, .slice none 0 0]) (c := c) (cap := cap) (s := s) (r := r) (tm := false) rfl (by rfl) ?_ HC.out ?_
    · simp [go_sem, execOp, rcase, Act.eval, Try.zeroValue35]
    refine sem_norm (a' := ?_) ?_ ?_
    rotate_left
    · simp only [Act.put, List.setIfInBounds_toArray, List.set_cons_zero, List.set_cons_succ]
      rfl
    refine sem_rest ?_
    go_wp2_with (fail)
    refine bodyPost_ret (results_ct rfl _ _ w.heap.size 35 #[.int .i64 0, .string ⟨#[]⟩, .int .i64 0, .int .i64 0, .string ⟨#[]⟩, .slice none 0 0, .slice none 0 0] (0, 0) _ rfl (blk_put (blk_put (blk_put (blk_put (blk_put (blk_put (blk_put hz.out 0 _ rfl) 1 _ rfl) 2 _ rfl) 3 _ rfl) 4 _ rfl) 5 _ rfl) 6 _ rfl) Try.underlying35 rfl (by kernel_rfl)) rfl ?_
    exact ⟨rfl, Lib.hid (by iterate 7 refine Below.setCell ?_ (by simp) _
                            exact hbl.out)⟩
  | true =>
    refine sem_sel_shut (z := .agg #[.int .i64 0, .string ⟨#[]⟩, .int .i64 0, .int .i64 0, .string ⟨#[]⟩, .slice none 0 0, .slice none 0 0]) (c := c) (cap := cap) (s := s) (r := r) (tm := false) rfl (by rfl) ?_ HC.out ?_
    · simp [go_sem, execOp, rcase, Act.eval, Try.zeroValue35]
    refine sem_norm (a' := ?_) ?_ ?_
    rotate_left
    · simp only [Act.put, List.setIfInBounds_toArray, List.set_cons_zero, List.set_cons_succ]
      rfl
    refine sem_rest ?_
    go_upto_region 5 with (fail)
    have hE : Hid ((w1.alloc (.cells #[.int .i64 0, .string ⟨#[]⟩, .int .i64 0, .int .i64 0, .string ⟨#[]⟩, .slice none 0 0, .slice none 0 0] 35)).heap[w1.heap.size]? = some (.cells #[.int .i64 0, .string ⟨#[]⟩, .int .i64 0, .int .i64 0, .string ⟨#[]⟩, .slice none 0 0, .slice none 0 0] 35 (0, 0))) := blk_new _ _
    have hz3 := Lib.hid (blk_alloc hz.out (.cells #[.int .i64 0, .string ⟨#[]⟩, .int .i64 0, .int .i64 0, .string ⟨#[]⟩, .slice none 0 0, .slice none 0 0] 35))
    have hb3 : Hid (Below w.heap.size w (w1.alloc (.cells #[.int .i64 0, .string ⟨#[]⟩, .int .i64 0, .int .i64 0, .string ⟨#[]⟩, .slice none 0 0, .slice none 0 0] 35))) := Lib.hid (hbl.out.alloc hbl.out.size _)
    clear d0 d1 d2 d3 d4 d5 d6 g0 g1 g2 g3 g4 g5 g6 hlt1
    generalize w1.alloc (.cells #[.int .i64 0, .string ⟨#[]⟩, .int .i64 0, .int .i64 0, .string ⟨#[]⟩, .slice none 0 0, .slice none 0 0] 35) = w3 at *
    generalize w1.heap.size = bx at *
    have e0 : w3.cell? ⟨bx, 0, none⟩ = some (.int .i64 0) := blk_at hE.out 0 rfl
    have e1 : w3.cell? ⟨bx, 1, none⟩ = some (.string ⟨#[]⟩) := blk_at hE.out 1 rfl
    have e2 : w3.cell? ⟨bx, 2, none⟩ = some (.int .i64 0) := blk_at hE.out 2 rfl
    have e3 : w3.cell? ⟨bx, 3, none⟩ = some (.int .i64 0) := blk_at hE.out 3 rfl
    have e4 : w3.cell? ⟨bx, 4, none⟩ = some (.string ⟨#[]⟩) := blk_at hE.out 4 rfl
    have e5 : w3.cell? ⟨bx, 5, none⟩ = some (.slice none 0 0) := blk_at hE.out 5 rfl
    have e6 : w3.cell? ⟨bx, 6, none⟩ = some (.slice none 0 0) := blk_at hE.out 6 rfl
    have d0 : w3.cell? ⟨w.heap.size, 0, none⟩ = some (.int .i64 0) := blk_at hz3.out 0 rfl
    have d1 : w3.cell? ⟨w.heap.size, 1, none⟩ = some (.string ⟨#[]⟩) := blk_at hz3.out 1 rfl
    have d2 : w3.cell? ⟨w.heap.size, 2, none⟩ = some (.int .i64 0) := blk_at hz3.out 2 rfl
    have d3 : w3.cell? ⟨w.heap.size, 3, none⟩ = some (.int .i64 0) := blk_at hz3.out 3 rfl
    have d4 : w3.cell? ⟨w.heap.size, 4, none⟩ = some (.string ⟨#[]⟩) := blk_at hz3.out 4 rfl
    have d5 : w3.cell? ⟨w.heap.size, 5, none⟩ = some (.slice none 0 0) := blk_at hz3.out 5 rfl
    have d6 : w3.cell? ⟨w.heap.size, 6, none⟩ = some (.slice none 0 0) := blk_at hz3.out 6 rfl
    have g0 : w3.frozen? ⟨w.heap.size, 0, none⟩ = false := blk_frozen hz3.out 0
    have g1 : w3.frozen? ⟨w.heap.size, 1, none⟩ = false := blk_frozen hz3.out 1
    have g2 : w3.frozen? ⟨w.heap.size, 2, none⟩ = false := blk_frozen hz3.out 2
    have g3 : w3.frozen? ⟨w.heap.size, 3, none⟩ = false := blk_frozen hz3.out 3
    have g4 : w3.frozen? ⟨w.heap.size, 4, none⟩ = false := blk_frozen hz3.out 4
    have g5 : w3.frozen? ⟨w.heap.size, 5, none⟩ = false := blk_frozen hz3.out 5
    have g6 : w3.frozen? ⟨w.heap.size, 6, none⟩ = false := blk_frozen hz3.out 6
    go_wp2_with (fail)
    refine bodyPost_ret (results_ct rfl _ _ w.heap.size 35 #[.int .i64 0, .string ⟨#[]⟩, .int .i64 0, .int .i64 0, .string ⟨#[]⟩, .slice none 0 0, .slice none 0 0] (0, 0) _ rfl (blk_put (blk_put (blk_put (blk_put (blk_put (blk_put (blk_put hz3.out 0 _ rfl) 1 _ rfl) 2 _ rfl) 3 _ rfl) 4 _ rfl) 5 _ rfl) 6 _ rfl) Try.underlying35 rfl (by kernel_rfl)) rfl ?_
    · exact ⟨rfl, Lib.hid (by iterate 7 refine Below.setCell ?_ (by simp) _
                              exact hb3.out)⟩
theorem bufOf_get (p : Pr) (l : List Pr) : (bufOf (p :: l)).getD 0 undef = .agg p.2.toArray := bufOf_head p l
set_option maxRecDepth 100000 in
set_option maxHeartbeats 4000000 in
theorem take12_some (own : Nat → Nat) (w : World) (g c cap s r : Nat) (rm : Int) (p : Pr) (l : List Pr) (h : LaneAt own w g rm false (p :: l) c cap s r) (hl : l.length ≤ 900000) :
    Calls Try.prog 12 #[.pointer (some ⟨g, 0, none⟩)] w fun e w' => e = .returned (.tuple #[.agg p.2.toArray, .bool true]) ∧ LaneTo own w g rm false l w' := by
  obtain ⟨x, cs⟩ := p
  obtain ⟨A5, c5, A6, c6, hcs, -⟩ := k35_open (h.st (x, cs) (by simp)).now
  simp only [] at hcs
  subst hcs
  have HH := Lib.hid h
  have hr0 := recs_le l
  have Hgw := Lib.hid (blk_lt h.hb)
  have Hcw := Lib.hid (blk_lt h.hc)
  have HRC := Lib.hid (recs_cons (x, [.int .i64 x.f0, .string x.f1.f0, .int .i64 x.f1.f1.f0, .int .i64 x.f1.f1.f1, .string x.f1.f1.f2, .slice A5 x.f1.f1.f3.length c5, .slice A6 x.f1.f2.length c6]) l)
  have q0 : (w.alloc (.cells #[.int .i64 0, .string ⟨#[]⟩, .int .i64 0, .int .i64 0, .string ⟨#[]⟩, .slice none 0 0, .slice none 0 0] 35)).cell? ⟨g, 0, none⟩ = some (.chan (some c)) := blk_at (blk_alloc h.hb _) 0 rfl
  have hz : Hid ((w.alloc (.cells #[.int .i64 0, .string ⟨#[]⟩, .int .i64 0, .int .i64 0, .string ⟨#[]⟩, .slice none 0 0, .slice none 0 0] 35)).heap[w.heap.size]? = some (.cells #[.int .i64 0, .string ⟨#[]⟩, .int .i64 0, .int .i64 0, .string ⟨#[]⟩, .slice none 0 0, .slice none 0 0] 35 (0, 0))) := blk_new _ _
  obtain ⟨own1, hown1⟩ : ∃ own1 : Nat → Nat, own1 = fresh own w 1 := ⟨_, rfl⟩
  have HL1 : Hid (LaneAt own1 (w.alloc (.cells #[.int .i64 0, .string ⟨#[]⟩, .int .i64 0, .int .i64 0, .string ⟨#[]⟩, .slice none 0 0, .slice none 0 0] 35)) g rm false ((x, [.int .i64 x.f0, .string x.f1.f0, .int .i64 x.f1.f1.f0, .int .i64 x.f1.f1.f1, .string x.f1.f1.f2, .slice A5 x.f1.f1.f3.length c5, .slice A6 x.f1.f2.length c6]) :: l) c cap s r) := Lib.hid (by rw [hown1]; exact h.upd (S := fun _ => False) (by decide) (by decide) (Upd.alloc _ 1))
  have HU1 : Hid (Upd (· = 1) own w own1 (w.alloc (.cells #[.int .i64 0, .string ⟨#[]⟩, .int .i64 0, .int .i64 0, .string ⟨#[]⟩, .slice none 0 0, .slice none 0 0] 35))) := Lib.hid (by rw [hown1]; exact Upd.alloc _ 1)
  have Hog := Lib.hid HL1.out.og
  have Hoc := Lib.hid HL1.out.oc
  have Hon : Hid (own1 w.heap.size = 1) := Lib.hid (by rw [hown1]; exact fresh_new (Nat.le_refl _))
  clear hown1
  have hsz : Hid ((w.alloc (.cells #[.int .i64 0, .string ⟨#[]⟩, .int .i64 0, .int .i64 0, .string ⟨#[]⟩, .slice none 0 0, .slice none 0 0] 35)).heap.size = w.heap.size + 1) := Lib.hid (World.size_alloc _ _)
  clear h
  go_enter Try.func12, Try.ntmps12
  go_upto_region 2 with (fail)
  clear q0
  generalize w.alloc (.cells #[.int .i64 0, .string ⟨#[]⟩, .int .i64 0, .int .i64 0, .string ⟨#[]⟩, .slice none 0 0, .slice none 0 0] 35) = w1 at *
  refine sem_first ?_
  refine sem_sel_recv (z := .agg #[.int .i64 0, .string ⟨#[]⟩, .int .i64 0, .int .i64 0, .string ⟨#[]⟩, .slice none 0 0, .slice none 0 0]) (c := c) (cap := cap) (buf := bufOf ((x, [.int .i64 x.f0, .string x.f1.f0, .int .i64 x.f1.f1.f0, .int .i64 x.f1.f1.f1, .string x.f1.f1.f2, .slice A5 x.f1.f1.f3.length c5, .slice A6 x.f1.f2.length c6]) :: l)) (s := s) (r := r) (tm := false) (closed := false) rfl (by rfl) ?_ HL1.out.hc (by rw [bufOf_size]; simp) ?_
  · simp [go_sem, execOp, rcase, Act.eval, Try.zeroValue35]
  · rw [bufOf_head, bufOf_tail]
    refine sem_norm (a' := ?_) ?_ ?_
    rotate_left
    · simp only [Act.put, List.setIfInBounds_toArray, List.set_cons_zero, List.set_cons_succ]
      rfl
    refine sem_rest ?_
    have HU2 : Hid (Upd (· = 1) own1 w1 own1 (w1.setChan c cap (bufOf l) false s (r + 1) false)) := Lib.hid (Upd.chan Hoc.out ..)
    have HB2 := Lib.hid ((chan_far w1 (blk_chan_ne HL1.out.hb HL1.out.hc) cap (bufOf l) false s (r + 1) false).trans HL1.out.hb)
    have HC2 : Hid ((w1.setChan c cap (bufOf l) false s (r + 1) false).heap[c]? = _) := Lib.hid (chan_now w1 HL1.out.hc)
    have hz2 := Lib.hid ((chan_far w1 (blk_chan_ne hz.out HL1.out.hc) cap (bufOf l) false s (r + 1) false).trans hz.out)
    have hsz2 : Hid ((w1.setChan c cap (bufOf l) false s (r + 1) false).heap.size = w.heap.size + 1) := Lib.hid (by rw [← hsz.out]; simp [World.setChan])
    have HS2 : Hid (∀ p ∈ l, St k35 own1 (w1.setChan c cap (bufOf l) false s (r + 1) false) p.1 p.2) := Lib.hid (fun p hp => (HL1.out.st p (List.mem_cons_of_mem _ hp)).upd (by decide) HU2.out)
    have HU3 := Lib.hid (HU1.out.then HU2.out)
    clear HU1 HU2 HL1 hz hsz
    generalize w1.setChan c cap (bufOf l) false s (r + 1) false = w2 at *
    go_upto_region 5 with (fail)
    have HE : Hid ((w2.alloc (.cells #[.int .i64 x.f0, .string x.f1.f0, .int .i64 x.f1.f1.f0, .int .i64 x.f1.f1.f1, .string x.f1.f1.f2, .slice A5 x.f1.f1.f3.length c5, .slice A6 x.f1.f2.length c6] 35)).heap[w2.heap.size]? = some (.cells #[.int .i64 x.f0, .string x.f1.f0, .int .i64 x.f1.f1.f0, .int .i64 x.f1.f1.f1, .string x.f1.f1.f2, .slice A5 x.f1.f1.f3.length c5, .slice A6 x.f1.f2.length c6] 35 (0, 0))) := blk_new _ _
    have HB3 := Lib.hid (blk_alloc HB2.out (.cells #[.int .i64 x.f0, .string x.f1.f0, .int .i64 x.f1.f1.f0, .int .i64 x.f1.f1.f1, .string x.f1.f1.f2, .slice A5 x.f1.f1.f3.length c5, .slice A6 x.f1.f2.length c6] 35))
    have HC3 := Lib.hid (blk_alloc HC2.out (.cells #[.int .i64 x.f0, .string x.f1.f0, .int .i64 x.f1.f1.f0, .int .i64 x.f1.f1.f1, .string x.f1.f1.f2, .slice A5 x.f1.f1.f3.length c5, .slice A6 x.f1.f2.length c6] 35))
    have hz3 := Lib.hid (blk_alloc hz2.out (.cells #[.int .i64 x.f0, .string x.f1.f0, .int .i64 x.f1.f1.f0, .int .i64 x.f1.f1.f1, .string x.f1.f1.f2, .slice A5 x.f1.f1.f3.length c5, .slice A6 x.f1.f2.length c6] 35))
    have HU4 : Hid (Upd (· = 1) own1 w2 own1 (w2.alloc (.cells #[.int .i64 x.f0, .string x.f1.f0, .int .i64 x.f1.f1.f0, .int .i64 x.f1.f1.f1, .string x.f1.f1.f2, .slice A5 x.f1.f1.f3.length c5, .slice A6 x.f1.f2.length c6] 35))) := Lib.hid (Upd.box _)
    have HU5 := Lib.hid (HU3.out.then HU4.out)
    have HS3 : Hid (∀ p ∈ l, St k35 own1 (w2.alloc (.cells #[.int .i64 x.f0, .string x.f1.f0, .int .i64 x.f1.f1.f0, .int .i64 x.f1.f1.f1, .string x.f1.f1.f2, .slice A5 x.f1.f1.f3.length c5, .slice A6 x.f1.f2.length c6] 35)) p.1 p.2) := Lib.hid (fun p hp => (HS2.out p hp).upd (by decide) HU4.out)
    clear HU3 HU4 HS2 HB2 HC2 hz2
    generalize w2.alloc (.cells #[.int .i64 x.f0, .string x.f1.f0, .int .i64 x.f1.f1.f0, .int .i64 x.f1.f1.f1, .string x.f1.f1.f2, .slice A5 x.f1.f1.f3.length c5, .slice A6 x.f1.f2.length c6] 35) = w3 at *
    have hx2 : w2.heap.size = w.heap.size + 1 := hsz2.out
    generalize w2.heap.size = bx at *
    subst hx2
    have e0 : w3.cell? ⟨(w.heap.size + 1), 0, none⟩ = some (.int .i64 x.f0) := blk_at HE.out 0 rfl
    have e1 : w3.cell? ⟨(w.heap.size + 1), 1, none⟩ = some (.string x.f1.f0) := blk_at HE.out 1 rfl
    have e2 : w3.cell? ⟨(w.heap.size + 1), 2, none⟩ = some (.int .i64 x.f1.f1.f0) := blk_at HE.out 2 rfl
    have e3 : w3.cell? ⟨(w.heap.size + 1), 3, none⟩ = some (.int .i64 x.f1.f1.f1) := blk_at HE.out 3 rfl
    have e4 : w3.cell? ⟨(w.heap.size + 1), 4, none⟩ = some (.string x.f1.f1.f2) := blk_at HE.out 4 rfl
    have e5 : w3.cell? ⟨(w.heap.size + 1), 5, none⟩ = some (.slice A5 x.f1.f1.f3.length c5) := blk_at HE.out 5 rfl
    have e6 : w3.cell? ⟨(w.heap.size + 1), 6, none⟩ = some (.slice A6 x.f1.f2.length c6) := blk_at HE.out 6 rfl
    have p1 : w3.cell? ⟨g, 1, none⟩ = some (.int .i64 (recs ((x, [.int .i64 x.f0, .string x.f1.f0, .int .i64 x.f1.f1.f0, .int .i64 x.f1.f1.f1, .string x.f1.f1.f2, .slice A5 x.f1.f1.f3.length c5, .slice A6 x.f1.f2.length c6]) :: l))) := blk_at HB3.out 1 rfl
    have z1 : w3.frozen? ⟨g, 1, none⟩ = false := blk_frozen HB3.out 1
    rw [HRC.out] at p1
    go_upto_if 21 with (fail)
    go_cut [] (fun wx => Hid (wx.heap[g]? = some (.cells #[.chan (some c), .int .i64 (recs l), .int .i64 rm, .bool false] 68 (0, 0))) ∧ Hid (wx.heap[c]? = some (.chan cap (bufOf l) false s (r + 1) false)) ∧ Hid (wx.heap[w.heap.size]? = some (.cells #[.int .i64 0, .string ⟨#[]⟩, .int .i64 0, .int .i64 0, .string ⟨#[]⟩, .slice none 0 0, .slice none 0 0] 35 (0, 0))) ∧ Hid (wx.heap[w.heap.size + 1]? = some (.cells #[.int .i64 x.f0, .string x.f1.f0, .int .i64 x.f1.f1.f0, .int .i64 x.f1.f1.f1, .string x.f1.f1.f2, .slice A5 x.f1.f1.f3.length c5, .slice A6 x.f1.f2.length c6] 35 (0, 0))) ∧ Hid (Upd (· = 1) own w own1 wx) ∧ Hid (∀ p ∈ l, St k35 own1 wx p.1 p.2))
    case first =>
      by_cases hx : x.f0 = 0
      · have k1 : (x.f0 == 0) = true := by simp [hx]
        simp only [] at p1
        rw [if_pos hx] at p1
        clear hx
        go_wp2_with (fail)
        go_meet
        have HU6 : Upd (· = 1) own1 w3 own1 (w3.setCell ⟨g, 1, none⟩ (.int .i64 (recs l))) := Upd.set (p := ⟨g, 1, none⟩) Hog.out _
        refine ⟨Lib.hid (blk_put HB3.out 1 _ rfl), Lib.hid ((Below.heap_setCell _ _ _ _ (by have := blk_chan_ne HB3.out HC3.out; simp only []; omega)).trans HC3.out), Lib.hid (blk_far hz3.out (by have := Hgw.out; simp only []; omega) _), Lib.hid (blk_far HE.out (by have := Hgw.out; simp only []; omega) _), Lib.hid (HU5.out.then HU6), Lib.hid (fun p hp => (HS3.out p hp).upd (by decide) HU6)⟩
      · have k1 : (x.f0 == 0) = false := by simp [hx]
        have e1 : Hid (recs ((x, [.int .i64 x.f0, .string x.f1.f0, .int .i64 x.f1.f1.f0, .int .i64 x.f1.f1.f1, .string x.f1.f1.f2, .slice A5 x.f1.f1.f3.length c5, .slice A6 x.f1.f2.length c6]) :: l) = recs l) := Lib.hid (by rw [HRC.out, if_neg hx]; omega)
        clear hx p1
        go_wp2_with (fail)
        go_meet
        exact ⟨by rw [← e1.out]; exact HB3, HC3, hz3, HE, HU5, HS3⟩
    case rest =>
      obtain ⟨HB4, HC4, hz4, HE4, HU6, HS4⟩ := hcut
      clear HB3 HC3 hz3 HE HU5 HS3 e0 e1 e2 e3 e4 e5 e6 p1 z1
      have e0 : wc.cell? ⟨(w.heap.size + 1), 0, none⟩ = some (.int .i64 x.f0) := blk_at HE4.out 0 rfl
      have e1 : wc.cell? ⟨(w.heap.size + 1), 1, none⟩ = some (.string x.f1.f0) := blk_at HE4.out 1 rfl
      have e2 : wc.cell? ⟨(w.heap.size + 1), 2, none⟩ = some (.int .i64 x.f1.f1.f0) := blk_at HE4.out 2 rfl
      have e3 : wc.cell? ⟨(w.heap.size + 1), 3, none⟩ = some (.int .i64 x.f1.f1.f1) := blk_at HE4.out 3 rfl
      have e4 : wc.cell? ⟨(w.heap.size + 1), 4, none⟩ = some (.string x.f1.f1.f2) := blk_at HE4.out 4 rfl
      have e5 : wc.cell? ⟨(w.heap.size + 1), 5, none⟩ = some (.slice A5 x.f1.f1.f3.length c5) := blk_at HE4.out 5 rfl
      have e6 : wc.cell? ⟨(w.heap.size + 1), 6, none⟩ = some (.slice A6 x.f1.f2.length c6) := blk_at HE4.out 6 rfl
      have d0 : wc.cell? ⟨w.heap.size, 0, none⟩ = some (.int .i64 0) := blk_at hz4.out 0 rfl
      have d1 : wc.cell? ⟨w.heap.size, 1, none⟩ = some (.string ⟨#[]⟩) := blk_at hz4.out 1 rfl
      have d2 : wc.cell? ⟨w.heap.size, 2, none⟩ = some (.int .i64 0) := blk_at hz4.out 2 rfl
      have d3 : wc.cell? ⟨w.heap.size, 3, none⟩ = some (.int .i64 0) := blk_at hz4.out 3 rfl
      have d4 : wc.cell? ⟨w.heap.size, 4, none⟩ = some (.string ⟨#[]⟩) := blk_at hz4.out 4 rfl
      have d5 : wc.cell? ⟨w.heap.size, 5, none⟩ = some (.slice none 0 0) := blk_at hz4.out 5 rfl
      have d6 : wc.cell? ⟨w.heap.size, 6, none⟩ = some (.slice none 0 0) := blk_at hz4.out 6 rfl
      have f0 : wc.frozen? ⟨w.heap.size, 0, none⟩ = false := blk_frozen hz4.out 0
      have f1 : wc.frozen? ⟨w.heap.size, 1, none⟩ = false := blk_frozen hz4.out 1
      have f2 : wc.frozen? ⟨w.heap.size, 2, none⟩ = false := blk_frozen hz4.out 2
      have f3 : wc.frozen? ⟨w.heap.size, 3, none⟩ = false := blk_frozen hz4.out 3
      have f4 : wc.frozen? ⟨w.heap.size, 4, none⟩ = false := blk_frozen hz4.out 4
      have f5 : wc.frozen? ⟨w.heap.size, 5, none⟩ = false := blk_frozen hz4.out 5
      have f6 : wc.frozen? ⟨w.heap.size, 6, none⟩ = false := blk_frozen hz4.out 6
      go_wp2_with (fail)
      refine bodyPost_ret (results_ct rfl _ _ w.heap.size 35 #[.int .i64 x.f0, .string x.f1.f0, .int .i64 x.f1.f1.f0, .int .i64 x.f1.f1.f1, .string x.f1.f1.f2, .slice A5 x.f1.f1.f3.length c5, .slice A6 x.f1.f2.length c6] (0, 0) _ rfl (blk_put (blk_put (blk_put (blk_put (blk_put (blk_put (blk_put hz4.out 0 _ rfl) 1 _ rfl) 2 _ rfl) 3 _ rfl) 4 _ rfl) 5 _ rfl) 6 _ rfl) Try.underlying35 rfl (by kernel_rfl)) rfl ?_
      have hu7 : ∀ (W : World) (i : Nat) (u : Value), Upd (· = 1) own1 W own1 (W.setCell ⟨w.heap.size, i, none⟩ u) := fun W i u => Upd.set (p := ⟨w.heap.size, i, none⟩) Hon.out u
      have HU7 := (((((((hu7 wc 0 (.int .i64 x.f0)).then (hu7 _ 1 (.string x.f1.f0))).then (hu7 _ 2 (.int .i64 x.f1.f1.f0))).then (hu7 _ 3 (.int .i64 x.f1.f1.f1))).then (hu7 _ 4 (.string x.f1.f1.f2))).then (hu7 _ 5 (.slice A5 x.f1.f1.f3.length c5))).then (hu7 _ 6 (.slice A6 x.f1.f2.length c6)))
      have hgn : g ≠ w.heap.size := by have := Hgw.out; omega
      have hcn : c ≠ w.heap.size := by have := Hcw.out; omega
      refine ⟨rfl, own1, c, cap, s, r + 1, ⟨?_, ?_, fun p hp => (HS4.out p hp).upd (by decide) HU7, Hog.out, Hoc.out⟩, HU6.out.then HU7⟩
      · iterate 7 refine (Below.heap_setCell _ _ _ _ hgn).trans ?_
        exact HB4.out
      · iterate 7 refine (Below.heap_setCell _ _ _ _ hcn).trans ?_
        exact HC4.out
end Go.Proofs.Ytcbfddhdaamimaa.PLaneFifo
