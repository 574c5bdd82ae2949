/- A value is looked at: counter.part, Check. -/
import Derived.Test.YtpplnhefpcofoaaZVA
namespace Go.Proofs.Ytpplnhefpcofoaa.PDeltaJoin
open Go.RowKit Go.Proofs.YtpplnhefpcofoaaW.PrintWords Go.Proofs.YtpplnhefpcofoaaW.PrintLast
set_option linter.unusedVariables false
set_option linter.unusedSimpArgs false

theorem toList_ne {b : ByteArray} (h : ¬ b = ⟨#[]⟩) : ¬ b.toList = [] := by
  intro h1
  rw [ByteArray.toList_eq] at h1
  apply h
  obtain ⟨d⟩ := b
  simp at h1
  rw [h1]
mutual
/-- What Check makes of a value at a depth, p parts having come: the error, the parts behind it. -/
def chkV (x : S87) (d p : Nat) : Int × Nat :=
  if 12 < p + 1 then (22, p + 1) else if x.f0 < 0 ∨ 3 < x.f0 then (20, p + 1)
  else if (x.f1 ≠ 0 ∧ x.f0 ≠ 1) ∨ (x.f2 ≠ ⟨#[]⟩ ∧ x.f0 ≠ 2) ∨ (0 < x.f3.length ∧ x.f0 ≠ 3) then (20, p + 1)
  else if x.f0 = 3 ∧ 3 ≤ d then (23, p + 1) else if 24 < x.f2.size then (21, p + 1) else if 6 < x.f3.length then (22, p + 1) else chkL x.f3 (d + 1) (p + 1)
termination_by SizeOf.sizeOf x
decreasing_by cases x; simp; omega
def chkL (l : List S87) (d p : Nat) : Int × Nat :=
  match l with
  | [] => (0, p)
  | y :: ys => if (chkV y d p).1 ≠ 0 then chkV y d p else chkL ys d (chkV y d p).2
termination_by SizeOf.sizeOf l
decreasing_by all_goals (simp; try omega)
end
theorem grown_trans {w w1 w2 : World} {row : Option Nat} (h1 : w.grownBy w1 row) (h2 : w1.grownBy w2 row) : w.grownBy w2 row :=
  ⟨h2.os.trans h1.os, h2.tape.trans h1.tape, h2.output.trans h1.output, Nat.le_trans h1.size h2.size, fun k hk hne => (h2.block k (Nat.lt_of_lt_of_le hk h1.size) hne).trans (h1.block k hk hne)⟩
theorem below_grown {w0 w w1 : World} {g : Nat} (hb : Below w0.heap.size w0 w) (h : w.grownBy w1 (some g)) (hg : w0.heap.size ≤ g) : Below w0.heap.size w0 w1 :=
  ⟨h.os.trans hb.os, h.tape.trans hb.tape, h.output.trans hb.output, Nat.le_trans hb.size h.size, fun k hk => (h.block k (Nat.lt_of_lt_of_le hk hb.size) (fun e => by cases e; omega)).trans (hb.block k hk)⟩
theorem chkV_eq (f0 f1 : Int) (f2 : ByteArray) (f3 : List S87) (d p q : Nat) (hq : q = p + 1) : chkV ⟨f0, f1, f2, f3⟩ d p = if 12 < q then (22, q) else if f0 < 0 ∨ 3 < f0 then (20, q)
  else if (f1 ≠ 0 ∧ f0 ≠ 1) ∨ (f2 ≠ ⟨#[]⟩ ∧ f0 ≠ 2) ∨ (0 < f3.length ∧ f0 ≠ 3) then (20, q)
  else if f0 = 3 ∧ 3 ≤ d then (23, q) else if 24 < f2.size then (21, q) else if 6 < f3.length then (22, q) else chkL f3 (d + 1) q := by
  subst hq
  rw [chkV]
theorem chkL_nil (d p : Nat) : chkL [] d p = (0, p) := by rw [chkL]
theorem chkL_cons (y : S87) (ys : List S87) (d p : Nat) : chkL (y :: ys) d p = if (chkV y d p).1 ≠ 0 then chkV y d p else chkL ys d (chkV y d p).2 := by rw [chkL]
theorem chk_le : ∀ (N : Nat), (∀ (x : S87) (d p : Nat), SizeOf.sizeOf x ≤ N → (chkV x d p).1 = 0 → (chkV x d p).2 ≤ 12) ∧ (∀ (l : List S87) (d p : Nat), SizeOf.sizeOf l ≤ N → p ≤ 12 → (chkL l d p).1 = 0 → (chkL l d p).2 ≤ 12)
  | 0 => ⟨fun x => by cases x; intro d p h; simp at h, fun l => by cases l <;> (intro d p h; simp at h)⟩
  | N + 1 => by
    obtain ⟨iv, il⟩ := chk_le N
    refine ⟨fun x d p h h0 => ?_, fun l d p h hp h0 => ?_⟩
    · obtain ⟨f0, f1, f2, f3⟩ := x
      rw [chkV_eq _ _ _ _ _ _ _ rfl] at h0 ⊢
      split at h0 <;> try (simp at h0; done)
      split at h0 <;> try (simp at h0; done)
      split at h0 <;> try (simp at h0; done)
      split at h0 <;> try (simp at h0; done)
      split at h0 <;> try (simp at h0; done)
      split at h0 <;> try (simp at h0; done)
      rename_i h1 h2 h3 h4 h5 h6
      rw [if_neg h1, if_neg h2, if_neg h3, if_neg h4, if_neg h5, if_neg h6]
      exact il _ _ _ (by simp at h; omega) (by omega) h0
    · cases l with
      | nil => rw [chkL_nil]; exact hp
      | cons y ys =>
        rw [chkL_cons] at h0 ⊢
        split at h0
        · rename_i h1; exact absurd h0 h1
        · rename_i h1
          rw [if_neg h1]
          have h2 : (chkV y d p).1 = 0 := by simpa using h1
          simp at h
          exact il ys d _ (by omega) (iv y d p (by omega) h2) h0
theorem chkV_le (x : S87) (d p : Nat) (h : (chkV x d p).1 = 0) : (chkV x d p).2 ≤ 12 := (chk_le _).1 x d p (Nat.le_refl _) h
theorem chkL_take (l : List S87) (z : S87) (d : Nat) : ∀ (k p : Nat), k < l.length → (chkL (l.take k) d p).1 = 0 → chkL (l.take (k + 1)) d p = if (chkV (l.getD k z) d (chkL (l.take k) d p).2).1 ≠ 0 then chkV (l.getD k z) d (chkL (l.take k) d p).2 else (0, (chkV (l.getD k z) d (chkL (l.take k) d p).2).2) := by
  induction l with
  | nil => intro k p h; simp at h
  | cons y ys ih =>
    intro k p h h0
    cases k with
    | zero => simp [chkL_cons, chkL_nil]
    | succ k =>
      rw [List.take_succ_cons, chkL_cons] at h0
      rw [List.take_succ_cons (i := k + 1), chkL_cons, List.take_succ_cons, chkL_cons, List.getD_cons_succ]
      by_cases h1 : (chkV y d p).1 ≠ 0
      · rw [if_pos h1] at h0; exact absurd h0 h1
      · rw [if_neg h1] at h0
        rw [if_neg h1, if_neg h1]
        exact ih k _ (by simpa using h) h0
/-- An error ends the walk over the items. -/
theorem chkL_err (l : List S87) (z : S87) (d : Nat) : ∀ (k p : Nat), k < l.length → (chkL (l.take k) d p).1 = 0 → (chkV (l.getD k z) d (chkL (l.take k) d p).2).1 ≠ 0 → chkL l d p = chkV (l.getD k z) d (chkL (l.take k) d p).2 := by
  induction l with
  | nil => intro k p h; simp at h
  | cons y ys ih =>
    intro k p h h0 h1
    cases k with
    | zero =>
      simp only [List.take_zero, chkL_nil, List.getD_cons_zero] at h1 ⊢
      rw [chkL_cons, if_pos h1]
    | succ k =>
      rw [List.take_succ_cons, chkL_cons] at h0 h1 ⊢
      rw [List.getD_cons_succ] at h1 ⊢
      rw [chkL_cons]
      by_cases h2 : (chkV y d p).1 ≠ 0
      · rw [if_pos h2] at h0; exact absurd h0 h2
      · rw [if_neg h2] at h0 h1 ⊢
        rw [if_neg h2]
        exact ih k _ (by simpa using h) h0 h1
set_option maxRecDepth 100000 in
set_option maxHeartbeats 16000000 in
theorem part58 : ∀ (N : Nat) (x : S87), SizeOf.sizeOf x ≤ N → ∀ (A : Option Addr) (c : Nat) (w0 w : World) (g d p : Nat), Kd.C k87 w0 A x.f3.length x.f3 → Below w0.heap.size w0 w → w0.heap.size ≤ g → w.heap[g]? = some (.cells #[.int .i64 (p : Nat)] 99 (0, 0)) → p ≤ 12 → d ≤ 3 →
    Calls Try.prog 58 #[.pointer (some ⟨g, 0, none⟩), .agg #[.int .i64 x.f0, .int .i64 x.f1, .string x.f2, .slice A x.f3.length c], .int .i64 (d : Nat)] w fun e w' => e = .returned (.int .i64 (chkV x d p).1) ∧ Hid (w'.heap[g]? = some (.cells #[.int .i64 ((chkV x d p).2 : Nat)] 99 (0, 0))) ∧ Hid (w.grownBy w' (some g)) := by
  intro N
  induction N with
  | zero => intro x h; cases x; simp at h
  | succ N ih =>
    intro x hN A c w0 w g d p hC hB hg hG hp hd
    obtain ⟨f0, f1, f2, f3⟩ := x
    dsimp only at hC hN ⊢
    obtain ⟨n, hn⟩ : ∃ n, n = f3.length := ⟨_, rfl⟩
    have HC := Lib.hid hC
    have HB := Lib.hid hB
    have Hg := Lib.hid hg
    have HG := Lib.hid hG
    have Hn := Lib.hid hn
    have IH := Lib.hid ih
    have HN := Lib.hid hN
    have HQ0 : Hid (p + 1 ≤ 13) := Lib.hid (by omega)
    have hnm : n ≤ 9223372036854775807 := by rw [hn]; exact Kd.C_max hC
    have hgw := blk_lt hG
    have HX : Hid ((w.alloc (.cells #[.int .i64 f0, .int .i64 f1, .string f2, .slice A n c] 87)).heap[w.heap.size]? = some (.cells #[.int .i64 f0, .int .i64 f1, .string f2, .slice A n c] 87 (0, 0))) := Lib.hid (blk_new w _)
    have HG1 := Lib.hid (blk_alloc hG (.cells #[.int .i64 f0, .int .i64 f1, .string f2, .slice A n c] 87))
    rw [← hn]
    clear hC hB hg hG hn ih hN
    have g0 : (w.alloc (.cells #[.int .i64 f0, .int .i64 f1, .string f2, .slice A n c] 87)).cell? ⟨g, 0, none⟩ = some (.int .i64 (p : Nat)) := blk_at HG1.out 0 rfl
    have gf : (w.alloc (.cells #[.int .i64 f0, .int .i64 f1, .string f2, .slice A n c] 87)).frozen? ⟨g, 0, none⟩ = false := blk_frozen HG1.out 0
    go_enter Try.func58, Try.ntmps58
    go_upto_block 0 with (fail)
    have HO1 : Hid (w.grownBy ((w.setCell ⟨g, 0, none⟩ (.int .i64 ((p : Int) + 1))).alloc (.cells #[.int .i64 f0, .int .i64 f1, .string f2, .slice A n c] 87)) (some g)) := Lib.hid ⟨rfl, rfl, rfl, by simp, fun k hk hne => by
      rw [Below.heap_alloc _ _ _ (by simpa using hk)]
      exact Below.heap_setCell _ _ _ _ (fun e => hne (by rw [e]))⟩
    have HGa : Hid (((w.setCell ⟨g, 0, none⟩ (.int .i64 ((p : Int) + 1))).alloc (.cells #[.int .i64 f0, .int .i64 f1, .string f2, .slice A n c] 87)).heap[g]? = some (.cells #[.int .i64 ((p + 1 : Nat) : Int)] 99 (0, 0))) := Lib.hid (blk_alloc (blk_put HG.out 0 (.int .i64 ((p : Int) + 1)) rfl) _)
    have HXa : Hid (((w.setCell ⟨g, 0, none⟩ (.int .i64 ((p : Int) + 1))).alloc (.cells #[.int .i64 f0, .int .i64 f1, .string f2, .slice A n c] 87)).heap[w.heap.size]? = some (.cells #[.int .i64 f0, .int .i64 f1, .string f2, .slice A n c] 87 (0, 0))) := Lib.hid (by
      have := blk_new (w.setCell ⟨g, 0, none⟩ (.int .i64 ((p : Int) + 1))) (.cells #[.int .i64 f0, .int .i64 f1, .string f2, .slice A n c] 87)
      rw [World.size_setCell] at this
      exact this)
    clear g0 gf HG1 HX
    generalize (w.setCell ⟨g, 0, none⟩ (.int .i64 ((p : Int) + 1))).alloc (.cells #[.int .i64 f0, .int .i64 f1, .string f2, .slice A n c] 87) = W1 at *
    obtain ⟨q, hq⟩ : ∃ q, q = p + 1 := ⟨_, rfl⟩
    have Hq := Lib.hid hq
    rw [← hq] at HGa
    have hq1 : q ≤ 13 := by omega
    clear hq
    have g0 : W1.cell? ⟨g, 0, none⟩ = some (.int .i64 (q : Nat)) := blk_at HGa.out 0 rfl
    have x0 : W1.cell? ⟨w.heap.size, 0, none⟩ = some (.int .i64 f0) := blk_at HXa.out 0 rfl
    have x1 : W1.cell? ⟨w.heap.size, 1, none⟩ = some (.int .i64 f1) := blk_at HXa.out 1 rfl
    have x2 : W1.cell? ⟨w.heap.size, 2, none⟩ = some (.string f2) := blk_at HXa.out 2 rfl
    have x3 : W1.cell? ⟨w.heap.size, 3, none⟩ = some (.slice A n c) := blk_at HXa.out 3 rfl
    go_cut [] (fun wx => wx = W1 ∧ Hid (chkV ⟨f0, f1, f2, f3⟩ d p = chkL f3 (d + 1) q) ∧ Hid (0 < n → d < 3) ∧ Hid (q ≤ 12))
    case first =>
      by_cases h1 : 12 < q
      · have k1 : decide (12 < (q : Int)) = true := decide_eq_true (by omega)
        have HV : Hid (chkV ⟨f0, f1, f2, f3⟩ d p = (22, q)) := Lib.hid (by rw [chkV_eq _ _ _ _ _ _ _ Hq.out, if_pos (show 12 < q from (by first | decide | omega | (simp; done) | (simp; omega) | (simp [*]; done) | (simp [*]; omega)))])
        skip
        go_wp2_with (fail)
        go_ret
        rw [HV.out]
        exact ⟨rfl, HGa, HO1⟩
      have k1 : decide (12 < (q : Int)) = false := decide_eq_false (by omega)
      by_cases h2 : f0 < 0
      · have k2 : decide (f0 < 0) = true := decide_eq_true h2
        have HV : Hid (chkV ⟨f0, f1, f2, f3⟩ d p = (20, q)) := Lib.hid (by rw [chkV_eq _ _ _ _ _ _ _ Hq.out, if_neg (show ¬ (12 < q) from (by first | decide | omega | (simp; done) | (simp; omega) | (simp [*]; done) | (simp [*]; omega))), if_pos (show f0 < 0 ∨ 3 < f0 from (by first | decide | omega | (simp; done) | (simp; omega) | (simp [*]; done) | (simp [*]; omega)))])
        clear h2
        go_wp2_with (fail)
        go_ret
        rw [HV.out]
        exact ⟨rfl, HGa, HO1⟩
      have k2 : decide (f0 < 0) = false := decide_eq_false h2
      by_cases h3 : 3 < f0
      · have k3 : decide (3 < f0) = true := decide_eq_true h3
        have HV : Hid (chkV ⟨f0, f1, f2, f3⟩ d p = (20, q)) := Lib.hid (by rw [chkV_eq _ _ _ _ _ _ _ Hq.out, if_neg (show ¬ (12 < q) from (by first | decide | omega | (simp; done) | (simp; omega) | (simp [*]; done) | (simp [*]; omega))), if_pos (show f0 < 0 ∨ 3 < f0 from (by first | decide | omega | (simp; done) | (simp; omega) | (simp [*]; done) | (simp [*]; omega)))])
        clear h2 h3
        go_wp2_with (fail)
        go_ret
        rw [HV.out]
        exact ⟨rfl, HGa, HO1⟩
      have hf0 : f0 = 0 ∨ f0 = 1 ∨ f0 = 2 ∨ f0 = 3 := by omega
      clear k2 h2 h3
      rcases hf0 with rfl | rfl | rfl | rfl
      · by_cases e1 : f1 = 0
        · subst e1
          by_cases e2 : f2 = ⟨#[]⟩
          · subst e2
            by_cases e3 : 0 < n
            · have e3' : 0 < f3.length := by rw [← Hn.out]; exact e3
              have k8 : decide (0 < (n : Int)) = true := decide_eq_true (by omega)
              have HV : Hid (chkV ⟨(0 : Int), (0 : Int), (⟨#[]⟩ : ByteArray), f3⟩ d p = (20, q)) := Lib.hid (by rw [chkV_eq _ _ _ _ _ _ _ Hq.out, if_neg (show ¬ (12 < q) from (by first | decide | omega | (simp; done) | (simp; omega) | (simp [*]; done) | (simp [*]; omega))), if_neg (show ¬ ((0 : Int) < 0 ∨ 3 < (0 : Int)) from (by first | decide | omega | (simp; done) | (simp; omega) | (simp [*]; done) | (simp [*]; omega))), if_pos (show ((0 : Int) ≠ 0 ∧ (0 : Int) ≠ 1) ∨ ((⟨#[]⟩ : ByteArray) ≠ ⟨#[]⟩ ∧ (0 : Int) ≠ 2) ∨ (0 < f3.length ∧ (0 : Int) ≠ 3) from (by first | decide | omega | (simp; done) | (simp; omega) | (simp [*]; done) | (simp [*]; omega)))])
              clear e3'
              go_wp2_with (fail)
              go_ret
              rw [HV.out]
              exact ⟨rfl, HGa, HO1⟩
            have e3' : ¬ 0 < f3.length := by rw [← Hn.out]; exact e3
            have k8 : decide (0 < (n : Int)) = false := decide_eq_false (by omega)
            have e6' : ¬ 6 < f3.length := by omega
            have k11 : decide (6 < (n : Int)) = false := decide_eq_false (by omega)
            have HV : Hid (chkV ⟨(0 : Int), (0 : Int), (⟨#[]⟩ : ByteArray), f3⟩ d p = chkL f3 (d + 1) q) := Lib.hid (by rw [chkV_eq _ _ _ _ _ _ _ Hq.out, if_neg (show ¬ (12 < q) from (by first | decide | omega | (simp; done) | (simp; omega) | (simp [*]; done) | (simp [*]; omega))), if_neg (show ¬ ((0 : Int) < 0 ∨ 3 < (0 : Int)) from (by first | decide | omega | (simp; done) | (simp; omega) | (simp [*]; done) | (simp [*]; omega))), if_neg (show ¬ (((0 : Int) ≠ 0 ∧ (0 : Int) ≠ 1) ∨ ((⟨#[]⟩ : ByteArray) ≠ ⟨#[]⟩ ∧ (0 : Int) ≠ 2) ∨ (0 < f3.length ∧ (0 : Int) ≠ 3)) from (by first | decide | omega | (simp; done) | (simp; omega) | (simp [*]; done) | (simp [*]; omega))), if_neg (show ¬ ((0 : Int) = 3 ∧ 3 ≤ d) from (by first | decide | omega | (simp; done) | (simp; omega) | (simp [*]; done) | (simp [*]; omega))), if_neg (show ¬ (24 < (⟨#[]⟩ : ByteArray).size) from (by first | decide | omega | (simp; done) | (simp; omega) | (simp [*]; done) | (simp [*]; omega))), if_neg (show ¬ (6 < f3.length) from (by first | decide | omega | (simp; done) | (simp; omega) | (simp [*]; done) | (simp [*]; omega)))])
            clear e3' e6'
            go_wp2_with (fail)
            go_meet
            exact ⟨rfl, HV, Lib.hid (by omega), Lib.hid (by omega)⟩
          have k6 : ¬ f2.toList = [] := toList_ne e2
          have k7 : f2.toList.isEmpty = false := by simpa using k6
          have HV : Hid (chkV ⟨(0 : Int), (0 : Int), f2, f3⟩ d p = (20, q)) := Lib.hid (by rw [chkV_eq _ _ _ _ _ _ _ Hq.out, if_neg (show ¬ (12 < q) from (by first | decide | omega | (simp; done) | (simp; omega) | (simp [*]; done) | (simp [*]; omega))), if_neg (show ¬ ((0 : Int) < 0 ∨ 3 < (0 : Int)) from (by first | decide | omega | (simp; done) | (simp; omega) | (simp [*]; done) | (simp [*]; omega))), if_pos (show ((0 : Int) ≠ 0 ∧ (0 : Int) ≠ 1) ∨ (f2 ≠ ⟨#[]⟩ ∧ (0 : Int) ≠ 2) ∨ (0 < f3.length ∧ (0 : Int) ≠ 3) from (by first | decide | omega | (simp; done) | (simp; omega) | (simp [*]; done) | (simp [*]; omega)))])
          clear e2
          go_wp2_with (fail)
          go_ret
          rw [HV.out]
          exact ⟨rfl, HGa, HO1⟩
        have k4 : (f1 != 0) = true := by simp [e1]
        have k5 : (f1 == 0) = false := by simp [e1]
        have HV : Hid (chkV ⟨(0 : Int), f1, f2, f3⟩ d p = (20, q)) := Lib.hid (by rw [chkV_eq _ _ _ _ _ _ _ Hq.out, if_neg (show ¬ (12 < q) from (by first | decide | omega | (simp; done) | (simp; omega) | (simp [*]; done) | (simp [*]; omega))), if_neg (show ¬ ((0 : Int) < 0 ∨ 3 < (0 : Int)) from (by first | decide | omega | (simp; done) | (simp; omega) | (simp [*]; done) | (simp [*]; omega))), if_pos (show (f1 ≠ 0 ∧ (0 : Int) ≠ 1) ∨ (f2 ≠ ⟨#[]⟩ ∧ (0 : Int) ≠ 2) ∨ (0 < f3.length ∧ (0 : Int) ≠ 3) from (by first | decide | omega | (simp; done) | (simp; omega) | (simp [*]; done) | (simp [*]; omega)))])
        clear e1
        go_wp2_with (fail)
        go_ret
        rw [HV.out]
        exact ⟨rfl, HGa, HO1⟩
      · by_cases e1 : f1 = 0
        · subst e1
          by_cases e2 : f2 = ⟨#[]⟩
          · subst e2
            by_cases e3 : 0 < n
            · have e3' : 0 < f3.length := by rw [← Hn.out]; exact e3
              have k8 : decide (0 < (n : Int)) = true := decide_eq_true (by omega)
              have HV : Hid (chkV ⟨(1 : Int), (0 : Int), (⟨#[]⟩ : ByteArray), f3⟩ d p = (20, q)) := Lib.hid (by rw [chkV_eq _ _ _ _ _ _ _ Hq.out, if_neg (show ¬ (12 < q) from (by first | decide | omega | (simp; done) | (simp; omega) | (simp [*]; done) | (simp [*]; omega))), if_neg (show ¬ ((1 : Int) < 0 ∨ 3 < (1 : Int)) from (by first | decide | omega | (simp; done) | (simp; omega) | (simp [*]; done) | (simp [*]; omega))), if_pos (show ((0 : Int) ≠ 0 ∧ (1 : Int) ≠ 1) ∨ ((⟨#[]⟩ : ByteArray) ≠ ⟨#[]⟩ ∧ (1 : Int) ≠ 2) ∨ (0 < f3.length ∧ (1 : Int) ≠ 3) from (by first | decide | omega | (simp; done) | (simp; omega) | (simp [*]; done) | (simp [*]; omega)))])
              clear e3'
              go_wp2_with (fail)
              go_ret
              rw [HV.out]
              exact ⟨rfl, HGa, HO1⟩
            have e3' : ¬ 0 < f3.length := by rw [← Hn.out]; exact e3
            have k8 : decide (0 < (n : Int)) = false := decide_eq_false (by omega)
            have e6' : ¬ 6 < f3.length := by omega
            have k11 : decide (6 < (n : Int)) = false := decide_eq_false (by omega)
            have HV : Hid (chkV ⟨(1 : Int), (0 : Int), (⟨#[]⟩ : ByteArray), f3⟩ d p = chkL f3 (d + 1) q) := Lib.hid (by rw [chkV_eq _ _ _ _ _ _ _ Hq.out, if_neg (show ¬ (12 < q) from (by first | decide | omega | (simp; done) | (simp; omega) | (simp [*]; done) | (simp [*]; omega))), if_neg (show ¬ ((1 : Int) < 0 ∨ 3 < (1 : Int)) from (by first | decide | omega | (simp; done) | (simp; omega) | (simp [*]; done) | (simp [*]; omega))), if_neg (show ¬ (((0 : Int) ≠ 0 ∧ (1 : Int) ≠ 1) ∨ ((⟨#[]⟩ : ByteArray) ≠ ⟨#[]⟩ ∧ (1 : Int) ≠ 2) ∨ (0 < f3.length ∧ (1 : Int) ≠ 3)) from (by first | decide | omega | (simp; done) | (simp; omega) | (simp [*]; done) | (simp [*]; omega))), if_neg (show ¬ ((1 : Int) = 3 ∧ 3 ≤ d) from (by first | decide | omega | (simp; done) | (simp; omega) | (simp [*]; done) | (simp [*]; omega))), if_neg (show ¬ (24 < (⟨#[]⟩ : ByteArray).size) from (by first | decide | omega | (simp; done) | (simp; omega) | (simp [*]; done) | (simp [*]; omega))), if_neg (show ¬ (6 < f3.length) from (by first | decide | omega | (simp; done) | (simp; omega) | (simp [*]; done) | (simp [*]; omega)))])
            clear e3' e6'
            go_wp2_with (fail)
            go_meet
            exact ⟨rfl, HV, Lib.hid (by omega), Lib.hid (by omega)⟩
          have k6 : ¬ f2.toList = [] := toList_ne e2
          have k7 : f2.toList.isEmpty = false := by simpa using k6
          have HV : Hid (chkV ⟨(1 : Int), (0 : Int), f2, f3⟩ d p = (20, q)) := Lib.hid (by rw [chkV_eq _ _ _ _ _ _ _ Hq.out, if_neg (show ¬ (12 < q) from (by first | decide | omega | (simp; done) | (simp; omega) | (simp [*]; done) | (simp [*]; omega))), if_neg (show ¬ ((1 : Int) < 0 ∨ 3 < (1 : Int)) from (by first | decide | omega | (simp; done) | (simp; omega) | (simp [*]; done) | (simp [*]; omega))), if_pos (show ((0 : Int) ≠ 0 ∧ (1 : Int) ≠ 1) ∨ (f2 ≠ ⟨#[]⟩ ∧ (1 : Int) ≠ 2) ∨ (0 < f3.length ∧ (1 : Int) ≠ 3) from (by first | decide | omega | (simp; done) | (simp; omega) | (simp [*]; done) | (simp [*]; omega)))])
          clear e2
          go_wp2_with (fail)
          go_ret
          rw [HV.out]
          exact ⟨rfl, HGa, HO1⟩
        have k4 : (f1 != 0) = true := by simp [e1]
        have k5 : (f1 == 0) = false := by simp [e1]
        by_cases e2 : f2 = ⟨#[]⟩
        · subst e2
          by_cases e3 : 0 < n
          · have e3' : 0 < f3.length := by rw [← Hn.out]; exact e3
            have k8 : decide (0 < (n : Int)) = true := decide_eq_true (by omega)
            have HV : Hid (chkV ⟨(1 : Int), f1, (⟨#[]⟩ : ByteArray), f3⟩ d p = (20, q)) := Lib.hid (by rw [chkV_eq _ _ _ _ _ _ _ Hq.out, if_neg (show ¬ (12 < q) from (by first | decide | omega | (simp; done) | (simp; omega) | (simp [*]; done) | (simp [*]; omega))), if_neg (show ¬ ((1 : Int) < 0 ∨ 3 < (1 : Int)) from (by first | decide | omega | (simp; done) | (simp; omega) | (simp [*]; done) | (simp [*]; omega))), if_pos (show (f1 ≠ 0 ∧ (1 : Int) ≠ 1) ∨ ((⟨#[]⟩ : ByteArray) ≠ ⟨#[]⟩ ∧ (1 : Int) ≠ 2) ∨ (0 < f3.length ∧ (1 : Int) ≠ 3) from (by first | decide | omega | (simp; done) | (simp; omega) | (simp [*]; done) | (simp [*]; omega)))])
            clear e3'
            go_wp2_with (fail)
            go_ret
            rw [HV.out]
            exact ⟨rfl, HGa, HO1⟩
          have e3' : ¬ 0 < f3.length := by rw [← Hn.out]; exact e3
          have k8 : decide (0 < (n : Int)) = false := decide_eq_false (by omega)
          have e6' : ¬ 6 < f3.length := by omega
          have k11 : decide (6 < (n : Int)) = false := decide_eq_false (by omega)
          have HV : Hid (chkV ⟨(1 : Int), f1, (⟨#[]⟩ : ByteArray), f3⟩ d p = chkL f3 (d + 1) q) := Lib.hid (by rw [chkV_eq _ _ _ _ _ _ _ Hq.out, if_neg (show ¬ (12 < q) from (by first | decide | omega | (simp; done) | (simp; omega) | (simp [*]; done) | (simp [*]; omega))), if_neg (show ¬ ((1 : Int) < 0 ∨ 3 < (1 : Int)) from (by first | decide | omega | (simp; done) | (simp; omega) | (simp [*]; done) | (simp [*]; omega))), if_neg (show ¬ ((f1 ≠ 0 ∧ (1 : Int) ≠ 1) ∨ ((⟨#[]⟩ : ByteArray) ≠ ⟨#[]⟩ ∧ (1 : Int) ≠ 2) ∨ (0 < f3.length ∧ (1 : Int) ≠ 3)) from (by first | decide | omega | (simp; done) | (simp; omega) | (simp [*]; done) | (simp [*]; omega))), if_neg (show ¬ ((1 : Int) = 3 ∧ 3 ≤ d) from (by first | decide | omega | (simp; done) | (simp; omega) | (simp [*]; done) | (simp [*]; omega))), if_neg (show ¬ (24 < (⟨#[]⟩ : ByteArray).size) from (by first | decide | omega | (simp; done) | (simp; omega) | (simp [*]; done) | (simp [*]; omega))), if_neg (show ¬ (6 < f3.length) from (by first | decide | omega | (simp; done) | (simp; omega) | (simp [*]; done) | (simp [*]; omega)))])
          clear e3' e6'
          go_wp2_with (fail)
          go_meet
          exact ⟨rfl, HV, Lib.hid (by omega), Lib.hid (by omega)⟩
        have k6 : ¬ f2.toList = [] := toList_ne e2
        have k7 : f2.toList.isEmpty = false := by simpa using k6
        have HV : Hid (chkV ⟨(1 : Int), f1, f2, f3⟩ d p = (20, q)) := Lib.hid (by rw [chkV_eq _ _ _ _ _ _ _ Hq.out, if_neg (show ¬ (12 < q) from (by first | decide | omega | (simp; done) | (simp; omega) | (simp [*]; done) | (simp [*]; omega))), if_neg (show ¬ ((1 : Int) < 0 ∨ 3 < (1 : Int)) from (by first | decide | omega | (simp; done) | (simp; omega) | (simp [*]; done) | (simp [*]; omega))), if_pos (show (f1 ≠ 0 ∧ (1 : Int) ≠ 1) ∨ (f2 ≠ ⟨#[]⟩ ∧ (1 : Int) ≠ 2) ∨ (0 < f3.length ∧ (1 : Int) ≠ 3) from (by first | decide | omega | (simp; done) | (simp; omega) | (simp [*]; done) | (simp [*]; omega)))])
        clear e2
        go_wp2_with (fail)
        go_ret
        rw [HV.out]
        exact ⟨rfl, HGa, HO1⟩
      · by_cases e1 : f1 = 0
        · subst e1
          by_cases e2 : f2 = ⟨#[]⟩
          · subst e2
            by_cases e3 : 0 < n
            · have e3' : 0 < f3.length := by rw [← Hn.out]; exact e3
              have k8 : decide (0 < (n : Int)) = true := decide_eq_true (by omega)
              have HV : Hid (chkV ⟨(2 : Int), (0 : Int), (⟨#[]⟩ : ByteArray), f3⟩ d p = (20, q)) := Lib.hid (by rw [chkV_eq _ _ _ _ _ _ _ Hq.out, if_neg (show ¬ (12 < q) from (by first | decide | omega | (simp; done) | (simp; omega) | (simp [*]; done) | (simp [*]; omega))), if_neg (show ¬ ((2 : Int) < 0 ∨ 3 < (2 : Int)) from (by first | decide | omega | (simp; done) | (simp; omega) | (simp [*]; done) | (simp [*]; omega))), if_pos (show ((0 : Int) ≠ 0 ∧ (2 : Int) ≠ 1) ∨ ((⟨#[]⟩ : ByteArray) ≠ ⟨#[]⟩ ∧ (2 : Int) ≠ 2) ∨ (0 < f3.length ∧ (2 : Int) ≠ 3) from (by first | decide | omega | (simp; done) | (simp; omega) | (simp [*]; done) | (simp [*]; omega)))])
              clear e3'
              go_wp2_with (fail)
              go_ret
              rw [HV.out]
              exact ⟨rfl, HGa, HO1⟩
            have e3' : ¬ 0 < f3.length := by rw [← Hn.out]; exact e3
            have k8 : decide (0 < (n : Int)) = false := decide_eq_false (by omega)
            have e6' : ¬ 6 < f3.length := by omega
            have k11 : decide (6 < (n : Int)) = false := decide_eq_false (by omega)
            have HV : Hid (chkV ⟨(2 : Int), (0 : Int), (⟨#[]⟩ : ByteArray), f3⟩ d p = chkL f3 (d + 1) q) := Lib.hid (by rw [chkV_eq _ _ _ _ _ _ _ Hq.out, if_neg (show ¬ (12 < q) from (by first | decide | omega | (simp; done) | (simp; omega) | (simp [*]; done) | (simp [*]; omega))), if_neg (show ¬ ((2 : Int) < 0 ∨ 3 < (2 : Int)) from (by first | decide | omega | (simp; done) | (simp; omega) | (simp [*]; done) | (simp [*]; omega))), if_neg (show ¬ (((0 : Int) ≠ 0 ∧ (2 : Int) ≠ 1) ∨ ((⟨#[]⟩ : ByteArray) ≠ ⟨#[]⟩ ∧ (2 : Int) ≠ 2) ∨ (0 < f3.length ∧ (2 : Int) ≠ 3)) from (by first | decide | omega | (simp; done) | (simp; omega) | (simp [*]; done) | (simp [*]; omega))), if_neg (show ¬ ((2 : Int) = 3 ∧ 3 ≤ d) from (by first | decide | omega | (simp; done) | (simp; omega) | (simp [*]; done) | (simp [*]; omega))), if_neg (show ¬ (24 < (⟨#[]⟩ : ByteArray).size) from (by first | decide | omega | (simp; done) | (simp; omega) | (simp [*]; done) | (simp [*]; omega))), if_neg (show ¬ (6 < f3.length) from (by first | decide | omega | (simp; done) | (simp; omega) | (simp [*]; done) | (simp [*]; omega)))])
            clear e3' e6'
            go_wp2_with (fail)
            go_meet
            exact ⟨rfl, HV, Lib.hid (by omega), Lib.hid (by omega)⟩
          have k6 : ¬ f2.toList = [] := toList_ne e2
          have k7 : f2.toList.isEmpty = false := by simpa using k6
          by_cases e3 : 0 < n
          · have e3' : 0 < f3.length := by rw [← Hn.out]; exact e3
            have k8 : decide (0 < (n : Int)) = true := decide_eq_true (by omega)
            have HV : Hid (chkV ⟨(2 : Int), (0 : Int), f2, f3⟩ d p = (20, q)) := Lib.hid (by rw [chkV_eq _ _ _ _ _ _ _ Hq.out, if_neg (show ¬ (12 < q) from (by first | decide | omega | (simp; done) | (simp; omega) | (simp [*]; done) | (simp [*]; omega))), if_neg (show ¬ ((2 : Int) < 0 ∨ 3 < (2 : Int)) from (by first | decide | omega | (simp; done) | (simp; omega) | (simp [*]; done) | (simp [*]; omega))), if_pos (show ((0 : Int) ≠ 0 ∧ (2 : Int) ≠ 1) ∨ (f2 ≠ ⟨#[]⟩ ∧ (2 : Int) ≠ 2) ∨ (0 < f3.length ∧ (2 : Int) ≠ 3) from (by first | decide | omega | (simp; done) | (simp; omega) | (simp [*]; done) | (simp [*]; omega)))])
            clear e3'
            go_wp2_with (fail)
            go_ret
            rw [HV.out]
            exact ⟨rfl, HGa, HO1⟩
          have e3' : ¬ 0 < f3.length := by rw [← Hn.out]; exact e3
          have k8 : decide (0 < (n : Int)) = false := decide_eq_false (by omega)
          by_cases e5 : 24 < f2.size
          · have k10 : decide (24 < (f2.size : Int)) = true := decide_eq_true (by omega)
            have HV : Hid (chkV ⟨(2 : Int), (0 : Int), f2, f3⟩ d p = (21, q)) := Lib.hid (by rw [chkV_eq _ _ _ _ _ _ _ Hq.out, if_neg (show ¬ (12 < q) from (by first | decide | omega | (simp; done) | (simp; omega) | (simp [*]; done) | (simp [*]; omega))), if_neg (show ¬ ((2 : Int) < 0 ∨ 3 < (2 : Int)) from (by first | decide | omega | (simp; done) | (simp; omega) | (simp [*]; done) | (simp [*]; omega))), if_neg (show ¬ (((0 : Int) ≠ 0 ∧ (2 : Int) ≠ 1) ∨ (f2 ≠ ⟨#[]⟩ ∧ (2 : Int) ≠ 2) ∨ (0 < f3.length ∧ (2 : Int) ≠ 3)) from (by first | decide | omega | (simp; done) | (simp; omega) | (simp [*]; done) | (simp [*]; omega))), if_neg (show ¬ ((2 : Int) = 3 ∧ 3 ≤ d) from (by first | decide | omega | (simp; done) | (simp; omega) | (simp [*]; done) | (simp [*]; omega))), if_pos (show 24 < f2.size from (by first | decide | omega | (simp; done) | (simp; omega) | (simp [*]; done) | (simp [*]; omega)))])
            clear e3' e2
            go_wp2_with (fail)
            go_ret
            rw [HV.out]
            exact ⟨rfl, HGa, HO1⟩
          have k10 : decide (24 < (f2.size : Int)) = false := decide_eq_false (by omega)
          have e6' : ¬ 6 < f3.length := by omega
          have k11 : decide (6 < (n : Int)) = false := decide_eq_false (by omega)
          have HV : Hid (chkV ⟨(2 : Int), (0 : Int), f2, f3⟩ d p = chkL f3 (d + 1) q) := Lib.hid (by rw [chkV_eq _ _ _ _ _ _ _ Hq.out, if_neg (show ¬ (12 < q) from (by first | decide | omega | (simp; done) | (simp; omega) | (simp [*]; done) | (simp [*]; omega))), if_neg (show ¬ ((2 : Int) < 0 ∨ 3 < (2 : Int)) from (by first | decide | omega | (simp; done) | (simp; omega) | (simp [*]; done) | (simp [*]; omega))), if_neg (show ¬ (((0 : Int) ≠ 0 ∧ (2 : Int) ≠ 1) ∨ (f2 ≠ ⟨#[]⟩ ∧ (2 : Int) ≠ 2) ∨ (0 < f3.length ∧ (2 : Int) ≠ 3)) from (by first | decide | omega | (simp; done) | (simp; omega) | (simp [*]; done) | (simp [*]; omega))), if_neg (show ¬ ((2 : Int) = 3 ∧ 3 ≤ d) from (by first | decide | omega | (simp; done) | (simp; omega) | (simp [*]; done) | (simp [*]; omega))), if_neg (show ¬ (24 < f2.size) from (by first | decide | omega | (simp; done) | (simp; omega) | (simp [*]; done) | (simp [*]; omega))), if_neg (show ¬ (6 < f3.length) from (by first | decide | omega | (simp; done) | (simp; omega) | (simp [*]; done) | (simp [*]; omega)))])
          clear e3' e6' e2
          go_wp2_with (fail)
          go_meet
          exact ⟨rfl, HV, Lib.hid (by omega), Lib.hid (by omega)⟩
        have k4 : (f1 != 0) = true := by simp [e1]
        have k5 : (f1 == 0) = false := by simp [e1]
        have HV : Hid (chkV ⟨(2 : Int), f1, f2, f3⟩ d p = (20, q)) := Lib.hid (by rw [chkV_eq _ _ _ _ _ _ _ Hq.out, if_neg (show ¬ (12 < q) from (by first | decide | omega | (simp; done) | (simp; omega) | (simp [*]; done) | (simp [*]; omega))), if_neg (show ¬ ((2 : Int) < 0 ∨ 3 < (2 : Int)) from (by first | decide | omega | (simp; done) | (simp; omega) | (simp [*]; done) | (simp [*]; omega))), if_pos (show (f1 ≠ 0 ∧ (2 : Int) ≠ 1) ∨ (f2 ≠ ⟨#[]⟩ ∧ (2 : Int) ≠ 2) ∨ (0 < f3.length ∧ (2 : Int) ≠ 3) from (by first | decide | omega | (simp; done) | (simp; omega) | (simp [*]; done) | (simp [*]; omega)))])
        clear e1
        go_wp2_with (fail)
        go_ret
        rw [HV.out]
        exact ⟨rfl, HGa, HO1⟩
      · by_cases e1 : f1 = 0
        · subst e1
          by_cases e2 : f2 = ⟨#[]⟩
          · subst e2
            by_cases e3 : 0 < n
            · have e3' : 0 < f3.length := by rw [← Hn.out]; exact e3
              have k8 : decide (0 < (n : Int)) = true := decide_eq_true (by omega)
              by_cases e4 : 3 ≤ d
              · have k9 : decide (3 ≤ (d : Int)) = true := decide_eq_true (by omega)
                have HV : Hid (chkV ⟨(3 : Int), (0 : Int), (⟨#[]⟩ : ByteArray), f3⟩ d p = (23, q)) := Lib.hid (by rw [chkV_eq _ _ _ _ _ _ _ Hq.out, if_neg (show ¬ (12 < q) from (by first | decide | omega | (simp; done) | (simp; omega) | (simp [*]; done) | (simp [*]; omega))), if_neg (show ¬ ((3 : Int) < 0 ∨ 3 < (3 : Int)) from (by first | decide | omega | (simp; done) | (simp; omega) | (simp [*]; done) | (simp [*]; omega))), if_neg (show ¬ (((0 : Int) ≠ 0 ∧ (3 : Int) ≠ 1) ∨ ((⟨#[]⟩ : ByteArray) ≠ ⟨#[]⟩ ∧ (3 : Int) ≠ 2) ∨ (0 < f3.length ∧ (3 : Int) ≠ 3)) from (by first | decide | omega | (simp; done) | (simp; omega) | (simp [*]; done) | (simp [*]; omega))), if_pos (show (3 : Int) = 3 ∧ 3 ≤ d from (by first | decide | omega | (simp; done) | (simp; omega) | (simp [*]; done) | (simp [*]; omega)))])
                clear e3'
                go_wp2_with (fail)
                go_ret
                rw [HV.out]
                exact ⟨rfl, HGa, HO1⟩
              have k9 : decide (3 ≤ (d : Int)) = false := decide_eq_false (by omega)
              by_cases e6 : 6 < n
              · have e6' : 6 < f3.length := by rw [← Hn.out]; exact e6
                have k11 : decide (6 < (n : Int)) = true := decide_eq_true (by omega)
                have HV : Hid (chkV ⟨(3 : Int), (0 : Int), (⟨#[]⟩ : ByteArray), f3⟩ d p = (22, q)) := Lib.hid (by rw [chkV_eq _ _ _ _ _ _ _ Hq.out, if_neg (show ¬ (12 < q) from (by first | decide | omega | (simp; done) | (simp; omega) | (simp [*]; done) | (simp [*]; omega))), if_neg (show ¬ ((3 : Int) < 0 ∨ 3 < (3 : Int)) from (by first | decide | omega | (simp; done) | (simp; omega) | (simp [*]; done) | (simp [*]; omega))), if_neg (show ¬ (((0 : Int) ≠ 0 ∧ (3 : Int) ≠ 1) ∨ ((⟨#[]⟩ : ByteArray) ≠ ⟨#[]⟩ ∧ (3 : Int) ≠ 2) ∨ (0 < f3.length ∧ (3 : Int) ≠ 3)) from (by first | decide | omega | (simp; done) | (simp; omega) | (simp [*]; done) | (simp [*]; omega))), if_neg (show ¬ ((3 : Int) = 3 ∧ 3 ≤ d) from (by first | decide | omega | (simp; done) | (simp; omega) | (simp [*]; done) | (simp [*]; omega))), if_neg (show ¬ (24 < (⟨#[]⟩ : ByteArray).size) from (by first | decide | omega | (simp; done) | (simp; omega) | (simp [*]; done) | (simp [*]; omega))), if_pos (show 6 < f3.length from (by first | decide | omega | (simp; done) | (simp; omega) | (simp [*]; done) | (simp [*]; omega)))])
                clear e3' e6'
                go_wp2_with (fail)
                go_ret
                rw [HV.out]
                exact ⟨rfl, HGa, HO1⟩
              have e6' : ¬ 6 < f3.length := by rw [← Hn.out]; exact e6
              have k11 : decide (6 < (n : Int)) = false := decide_eq_false (by omega)
              have HV : Hid (chkV ⟨(3 : Int), (0 : Int), (⟨#[]⟩ : ByteArray), f3⟩ d p = chkL f3 (d + 1) q) := Lib.hid (by rw [chkV_eq _ _ _ _ _ _ _ Hq.out, if_neg (show ¬ (12 < q) from (by first | decide | omega | (simp; done) | (simp; omega) | (simp [*]; done) | (simp [*]; omega))), if_neg (show ¬ ((3 : Int) < 0 ∨ 3 < (3 : Int)) from (by first | decide | omega | (simp; done) | (simp; omega) | (simp [*]; done) | (simp [*]; omega))), if_neg (show ¬ (((0 : Int) ≠ 0 ∧ (3 : Int) ≠ 1) ∨ ((⟨#[]⟩ : ByteArray) ≠ ⟨#[]⟩ ∧ (3 : Int) ≠ 2) ∨ (0 < f3.length ∧ (3 : Int) ≠ 3)) from (by first | decide | omega | (simp; done) | (simp; omega) | (simp [*]; done) | (simp [*]; omega))), if_neg (show ¬ ((3 : Int) = 3 ∧ 3 ≤ d) from (by first | decide | omega | (simp; done) | (simp; omega) | (simp [*]; done) | (simp [*]; omega))), if_neg (show ¬ (24 < (⟨#[]⟩ : ByteArray).size) from (by first | decide | omega | (simp; done) | (simp; omega) | (simp [*]; done) | (simp [*]; omega))), if_neg (show ¬ (6 < f3.length) from (by first | decide | omega | (simp; done) | (simp; omega) | (simp [*]; done) | (simp [*]; omega)))])
              clear e3' e6'
              go_wp2_with (fail)
              go_meet
              exact ⟨rfl, HV, Lib.hid (by exact fun _ => by omega), Lib.hid (by omega)⟩
            have e3' : ¬ 0 < f3.length := by rw [← Hn.out]; exact e3
            have k8 : decide (0 < (n : Int)) = false := decide_eq_false (by omega)
            by_cases e4 : 3 ≤ d
            · have k9 : decide (3 ≤ (d : Int)) = true := decide_eq_true (by omega)
              have HV : Hid (chkV ⟨(3 : Int), (0 : Int), (⟨#[]⟩ : ByteArray), f3⟩ d p = (23, q)) := Lib.hid (by rw [chkV_eq _ _ _ _ _ _ _ Hq.out, if_neg (show ¬ (12 < q) from (by first | decide | omega | (simp; done) | (simp; omega) | (simp [*]; done) | (simp [*]; omega))), if_neg (show ¬ ((3 : Int) < 0 ∨ 3 < (3 : Int)) from (by first | decide | omega | (simp; done) | (simp; omega) | (simp [*]; done) | (simp [*]; omega))), if_neg (show ¬ (((0 : Int) ≠ 0 ∧ (3 : Int) ≠ 1) ∨ ((⟨#[]⟩ : ByteArray) ≠ ⟨#[]⟩ ∧ (3 : Int) ≠ 2) ∨ (0 < f3.length ∧ (3 : Int) ≠ 3)) from (by first | decide | omega | (simp; done) | (simp; omega) | (simp [*]; done) | (simp [*]; omega))), if_pos (show (3 : Int) = 3 ∧ 3 ≤ d from (by first | decide | omega | (simp; done) | (simp; omega) | (simp [*]; done) | (simp [*]; omega)))])
              clear e3'
              go_wp2_with (fail)
              go_ret
              rw [HV.out]
              exact ⟨rfl, HGa, HO1⟩
            have k9 : decide (3 ≤ (d : Int)) = false := decide_eq_false (by omega)
            have e6' : ¬ 6 < f3.length := by omega
            have k11 : decide (6 < (n : Int)) = false := decide_eq_false (by omega)
            have HV : Hid (chkV ⟨(3 : Int), (0 : Int), (⟨#[]⟩ : ByteArray), f3⟩ d p = chkL f3 (d + 1) q) := Lib.hid (by rw [chkV_eq _ _ _ _ _ _ _ Hq.out, if_neg (show ¬ (12 < q) from (by first | decide | omega | (simp; done) | (simp; omega) | (simp [*]; done) | (simp [*]; omega))), if_neg (show ¬ ((3 : Int) < 0 ∨ 3 < (3 : Int)) from (by first | decide | omega | (simp; done) | (simp; omega) | (simp [*]; done) | (simp [*]; omega))), if_neg (show ¬ (((0 : Int) ≠ 0 ∧ (3 : Int) ≠ 1) ∨ ((⟨#[]⟩ : ByteArray) ≠ ⟨#[]⟩ ∧ (3 : Int) ≠ 2) ∨ (0 < f3.length ∧ (3 : Int) ≠ 3)) from (by first | decide | omega | (simp; done) | (simp; omega) | (simp [*]; done) | (simp [*]; omega))), if_neg (show ¬ ((3 : Int) = 3 ∧ 3 ≤ d) from (by first | decide | omega | (simp; done) | (simp; omega) | (simp [*]; done) | (simp [*]; omega))), if_neg (show ¬ (24 < (⟨#[]⟩ : ByteArray).size) from (by first | decide | omega | (simp; done) | (simp; omega) | (simp [*]; done) | (simp [*]; omega))), if_neg (show ¬ (6 < f3.length) from (by first | decide | omega | (simp; done) | (simp; omega) | (simp [*]; done) | (simp [*]; omega)))])
            clear e3' e6'
            go_wp2_with (fail)
            go_meet
            exact ⟨rfl, HV, Lib.hid (by exact fun _ => by omega), Lib.hid (by omega)⟩
          have k6 : ¬ f2.toList = [] := toList_ne e2
          have k7 : f2.toList.isEmpty = false := by simpa using k6
          have HV : Hid (chkV ⟨(3 : Int), (0 : Int), f2, f3⟩ d p = (20, q)) := Lib.hid (by rw [chkV_eq _ _ _ _ _ _ _ Hq.out, if_neg (show ¬ (12 < q) from (by first | decide | omega | (simp; done) | (simp; omega) | (simp [*]; done) | (simp [*]; omega))), if_neg (show ¬ ((3 : Int) < 0 ∨ 3 < (3 : Int)) from (by first | decide | omega | (simp; done) | (simp; omega) | (simp [*]; done) | (simp [*]; omega))), if_pos (show ((0 : Int) ≠ 0 ∧ (3 : Int) ≠ 1) ∨ (f2 ≠ ⟨#[]⟩ ∧ (3 : Int) ≠ 2) ∨ (0 < f3.length ∧ (3 : Int) ≠ 3) from (by first | decide | omega | (simp; done) | (simp; omega) | (simp [*]; done) | (simp [*]; omega)))])
          clear e2
          go_wp2_with (fail)
          go_ret
          rw [HV.out]
          exact ⟨rfl, HGa, HO1⟩
        have k4 : (f1 != 0) = true := by simp [e1]
        have k5 : (f1 == 0) = false := by simp [e1]
        have HV : Hid (chkV ⟨(3 : Int), f1, f2, f3⟩ d p = (20, q)) := Lib.hid (by rw [chkV_eq _ _ _ _ _ _ _ Hq.out, if_neg (show ¬ (12 < q) from (by first | decide | omega | (simp; done) | (simp; omega) | (simp [*]; done) | (simp [*]; omega))), if_neg (show ¬ ((3 : Int) < 0 ∨ 3 < (3 : Int)) from (by first | decide | omega | (simp; done) | (simp; omega) | (simp [*]; done) | (simp [*]; omega))), if_pos (show (f1 ≠ 0 ∧ (3 : Int) ≠ 1) ∨ (f2 ≠ ⟨#[]⟩ ∧ (3 : Int) ≠ 2) ∨ (0 < f3.length ∧ (3 : Int) ≠ 3) from (by first | decide | omega | (simp; done) | (simp; omega) | (simp [*]; done) | (simp [*]; omega)))])
        clear e1
        go_wp2_with (fail)
        go_ret
        rw [HV.out]
        exact ⟨rfl, HGa, HO1⟩
    case rest =>
    obtain ⟨rfl, HV, HD3, HQ⟩ := hcut
    have HBx : Hid (Below w0.heap.size w0 wc) := below_grown HB.out HO1.out Hg.out
    go_wp2_with (fail)
    go_loopw [8, 9, 79] (fun v8 v9 v79 wr => ∃ k : Nat, k ≤ n ∧ v79 = .int .i64 k ∧ Hid ((chkL (f3.take k) (d + 1) q).1 = 0) ∧ Hid (wr.heap[g]? = some (.cells #[.int .i64 ((chkL (f3.take k) (d + 1) q).2 : Nat)] 99 (0, 0))) ∧ Hid (w.grownBy wr (some g)) ∧ Hid (q ≤ 12)) (fun _ _ v79 _ => n - (intOf v79).toNat)
    case atStart => exact ⟨0, Nat.zero_le _, rfl, by rw [List.take_zero, chkL_nil]; rfl, by rw [List.take_zero, chkL_nil]; exact HGa, HO1, HQ⟩
    case round =>
      clear HGa HO1 HXa g0 x0 x1 x2 x3 HBx
      obtain ⟨k, hk, rfl, HE, HGk, HOk, HQ⟩ := hrel
      have HBk : Hid (Below w0.heap.size w0 wr) := below_grown HB.out HOk.out Hg.out
      by_cases hlt : k < n
      rotate_left
      · obtain rfl : n = k := by omega
        have HVV : Hid (chkV ⟨f0, f1, f2, f3⟩ d p = (0, (chkL (f3.take n) (d + 1) q).2)) := Lib.hid (by
          rw [HV.out, List.take_of_length_le (by rw [← Hn.out]; exact Nat.le_refl _)] 
          rw [List.take_of_length_le (by rw [← Hn.out]; exact Nat.le_refl _)] at HE
          exact Prod.ext HE.out rfl)
        go_wp2_with (fail)
        go_ret
        rw [HVV.out]
        exact ⟨rfl, HGk, HOk⟩
      obtain ⟨ad, A3, c3, rfl, e0, e1, e2, e3, hl3, hC3⟩ := at_T87 HC.out (k : Int) (by omega) (by rw [← Hn.out]; omega)
      have hmem : rd_T87 f3 (k : Int) ∈ f3 := getD_mem _ _ _ (by rw [Int.toNat_natCast, ← Hn.out]; exact hlt)
      have hgt : f3.getD k z87 = rd_T87 f3 (k : Int) := by unfold rd_T87; rw [Int.toNat_natCast]
      have htk := chkL_take f3 z87 (d + 1) k q (by rw [← Hn.out]; exact hlt) HE.out
      have hte := chkL_err f3 z87 (d + 1) k q (by rw [← Hn.out]; exact hlt) HE.out
      have hr12 := (chk_le _).2 (f3.take k) (d + 1) q (Nat.le_refl _) HQ.out HE.out
      rw [hgt] at htk hte
      generalize rd_T87 f3 (k : Int) = y at *
      obtain ⟨r, hr⟩ : ∃ r, r = (chkL (f3.take k) (d + 1) q).2 := ⟨_, rfl⟩
      rw [← hr] at htk hte hr12 HGk
      have hd3 := HD3.out (by omega)
      rw [Int.toNat_natCast] at e0 e1 e2 e3
      replace e0 := pw_cell_below HBk.out e0
      replace e1 := pw_cell_below HBk.out e1
      replace e2 := pw_cell_below HBk.out e2
      replace e3 := pw_cell_below HBk.out e3
      have hyc : ((d + 1 : Nat) : Int) = (d : Int) + 1 := by omega
      have HY := Lib.hid (IH.out y (by have := List.sizeOf_lt_of_mem hmem; have := HN.out; simp at this; omega) A3 c3 w0 (wr.alloc (.cells #[.int .i64 y.f0, .int .i64 y.f1, .string y.f2, .slice A3 y.f3.length c3] 87)) g (d + 1) r hC3 (HBk.out.alloc HBk.out.size _) Hg.out (blk_alloc HGk.out _) hr12 (by omega))
      rw [hyc] at HY
      have HX9 := Lib.hid (blk_new wr (.cells #[.int .i64 y.f0, .int .i64 y.f1, .string y.f2, .slice A3 y.f3.length c3] 87))
      have HO9 : Hid (w.grownBy (wr.alloc (.cells #[.int .i64 y.f0, .int .i64 y.f1, .string y.f2, .slice A3 y.f3.length c3] 87)) (some g)) := Lib.hid (grown_trans HOk.out (World.grownBy_alloc _ _ _))
      have Htk := Lib.hid htk
      have Hte := Lib.hid hte
      clear htk hte hmem hgt hyc hC3 hl3 hr hr12
      go_upto_region 19 with (fail)
      clear e0 e1 e2 e3
      generalize wr.alloc (.cells #[.int .i64 y.f0, .int .i64 y.f1, .string y.f2, .slice A3 y.f3.length c3] 87) = wa at *
      have y0 : wa.cell? ⟨wr.heap.size, 0, none⟩ = some (.int .i64 y.f0) := blk_at HX9.out 0 rfl
      have y1 : wa.cell? ⟨wr.heap.size, 1, none⟩ = some (.int .i64 y.f1) := blk_at HX9.out 1 rfl
      have y2 : wa.cell? ⟨wr.heap.size, 2, none⟩ = some (.string y.f2) := blk_at HX9.out 2 rfl
      have y3 : wa.cell? ⟨wr.heap.size, 3, none⟩ = some (.slice A3 y.f3.length c3) := blk_at HX9.out 3 rfl
      have i0 : (d : Int) + 1 ≤ 9 := by omega
      have i1 : (0 : Int) ≤ (d : Int) := by omega
      go_wp2_with (go_at_call 58; refine HY.out.mono ?_; rintro e w2 ⟨rfl, hg2, ho2⟩
                   have HG2 := Lib.hid hg2.out
                   have HO2 := Lib.hid (grown_trans HO9.out ho2.out)
                   clear hg2 ho2 HY y0 y1 y2 y3
                   generalize hz : chkV y (d + 1) r = z at *
                   clear hz
                   obtain ⟨z1, z2⟩ := z
                   dsimp only at HG2 ⊢
                   by_cases hz0 : z1 = 0
                   subst hz0)
      · go_roundw
        case rel =>
          refine ⟨k + 1, by omega, by go_num, ?_, ?_, HO2, HQ⟩
          · rw [Htk.out]; exact Lib.hid (by simp)
          · rw [Htk.out]; simpa using HG2
        case measure => simp [intOf]; omega
      · have HVV : Hid (chkV ⟨f0, f1, f2, f3⟩ d p = (z1, z2)) := Lib.hid (HV.out.trans (Hte.out hz0))
        have k1 : (z1 == 0) = false := beq_false_of_ne hz0
        have k2 : (z1 != 0) = true := by simp [hz0]
        clear hz0
        go_wp2_with (fail)
        go_ret
        rw [HVV.out]
        exact ⟨rfl, HG2, HO2⟩
end Go.Proofs.Ytpplnhefpcofoaa.PDeltaJoin
