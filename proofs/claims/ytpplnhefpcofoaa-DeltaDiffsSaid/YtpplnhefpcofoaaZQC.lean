/- The reference's flat and Check. -/
import Derived.Test.YtpplnhefpcofoaaZQB
import Derived.Test.YtpplnhefpcofoaaZCE
namespace Go.Proofs.Ytpplnhefpcofoaa.PDeltaJoin
open Go.RowKit Go.Proofs.YtpplnhefpcofoaaW.PrintWords Go.Proofs.YtpplnhefpcofoaaW.PrintLast
set_option linter.unusedVariables false
set_option linter.unusedSimpArgs false

mutual
/-- The parts of a value, from the left. -/
def partsF (x : S87) : List S111 := ⟨x.f0, x.f1, x.f2, x.f3.length⟩ :: partsFL x.f3
termination_by SizeOf.sizeOf x
decreasing_by cases x; simp; omega
def partsFL (l : List S87) : List S111 :=
  match l with
  | [] => []
  | y :: ys => partsF y ++ partsFL ys
termination_by SizeOf.sizeOf l
decreasing_by all_goals (simp; try omega)
end
theorem partsF_eq (f0 f1 : Int) (f2 : ByteArray) (f3 : List S87) : partsF ⟨f0, f1, f2, f3⟩ = ⟨f0, f1, f2, f3.length⟩ :: partsFL f3 := by rw [partsF]
theorem partsFL_nil : partsFL [] = [] := by rw [partsFL]
theorem partsFL_cons (y : S87) (ys : List S87) : partsFL (y :: ys) = partsF y ++ partsFL ys := by rw [partsFL]
theorem partsFL_append (l m : List S87) : partsFL (l ++ m) = partsFL l ++ partsFL m := by
  induction l with
  | nil => rw [partsFL_nil]; rfl
  | cons y ys ih => rw [List.cons_append, partsFL_cons, partsFL_cons, ih, List.append_assoc]
theorem partsF_len : ∀ (N : Nat), (∀ (x : S87), SizeOf.sizeOf x ≤ N → (partsF x).length = 1 + partsV x.f3) ∧ (∀ (l : List S87), SizeOf.sizeOf l ≤ N → (partsFL l).length = partsV l)
  | 0 => ⟨fun x => by cases x; intro h; simp at h, fun l => by cases l <;> (intro h; simp at h)⟩
  | N + 1 => by
    obtain ⟨iv, il⟩ := partsF_len N
    refine ⟨fun x h => ?_, fun l h => ?_⟩
    · obtain ⟨f0, f1, f2, f3⟩ := x
      show _ = 1 + partsV f3
      rw [partsF_eq, List.length_cons, il f3 (by simp at h; omega)]
      omega
    · cases l with
      | nil => rw [partsFL_nil]; rfl
      | cons y ys =>
        simp at h
        rw [partsFL_cons, List.length_append, iv y (by omega), il ys (by omega)]
        unfold partsV
        rw [List.length_cons, List.map_cons, List.sum_cons, S87.parts_eq]
        unfold partsV
        omega
theorem partsFL_length (l : List S87) : (partsFL l).length = partsV l := (partsF_len _).2 l (Nat.le_refl _)
theorem R_sl {α : Type} {d : Kd α} {e base : Nat} {w : World} {ok : Nat → Prop} {v : Value} {xs : List α} (h : Kd.R d e w base ok v xs) : ∃ A m c, v = .slice A m c ∧ m = xs.length := by
  obtain ⟨A, c, he⟩ := Kd.R_slice h
  exact ⟨A, _, c, he, rfl⟩
theorem below_grownR {B : Nat} {w w1 : World} {row : Option Nat} (hb : B ≤ w.heap.size) (h : w.grownBy w1 row) (hr : ∀ k, row = some k → B ≤ k) : Below B w w1 :=
  ⟨h.os, h.tape, h.output, h.size, fun k hk => h.block k (Nat.lt_of_lt_of_le hk hb) (fun e => by have := hr k e.symm; omega)⟩
theorem grown_then {w w1 w2 : World} {r1 r2 : Option Nat} (h1 : w.grownBy w1 r1) (h2 : w1.grownBy w2 r2) (hat : r2 = r1 ∨ ∃ b, r2 = some b ∧ w.heap.size ≤ b) : w.grownBy w2 r1 :=
  ⟨h2.os.trans h1.os, h2.tape.trans h1.tape, h2.output.trans h1.output, Nat.le_trans h1.size h2.size, fun k hk hne => (h2.block k (Nat.lt_of_lt_of_le hk h1.size) (fun e => by
    rcases hat with h | ⟨b, h, hb⟩
    · exact hne (e.trans h)
    · rw [h] at e; injection e with e; omega)).trans (h1.block k hk hne)⟩
def AtRow (r1 r2 : Option Nat) (n : Nat) : Prop := r2 = r1 ∨ ∃ b, r2 = some b ∧ n ≤ b
theorem AtRow.then {r1 r2 r3 : Option Nat} {n m : Nat} (h1 : AtRow r1 r2 n) (h2 : AtRow r2 r3 m) (hn : n ≤ m) : AtRow r1 r3 n := by
  rcases h2 with h | ⟨b, h, hb⟩
  · rw [h]; exact h1
  · exact .inr ⟨b, h, Nat.le_trans hn hb⟩
/-- What flat answers: the parts in a row from base on, the error; but the row that came in, what was stays. -/
def FlatAns (base : Nat) (x : S87) (d : Nat) (l : List S111) (row : Option Nat) (w : World) (e : Ending) (w' : World) : Prop :=
  ∃ v' l', e = .returned (.tuple #[v', .int .i64 (chkV x d l.length).1]) ∧ Hid (Kd.R k111 111 w' base (fun _ => True) v' l') ∧ Hid (w.grownBy w' row) ∧ Hid (AtRow row v'.ownBlock w.heap.size) ∧ Hid ((chkV x d l.length).1 = 0 → l' = l ++ partsF x)
set_option maxRecDepth 100000 in
set_option maxHeartbeats 16000000 in
theorem flat59 : ∀ (N : Nat) (x : S87), SizeOf.sizeOf x ≤ N → ∀ (A : Option Addr) (c : Nat) (w0 w : World) (base d : Nat) (v : Value) (l : List S111), Kd.C k87 w0 A x.f3.length x.f3 → Below w0.heap.size w0 w → w0.heap.size ≤ base → base ≤ w.heap.size → Kd.R k111 111 w base (fun _ => True) v l → l.length ≤ 12 → d ≤ 3 →
    Calls Try.prog 59 #[.agg #[.int .i64 x.f0, .int .i64 x.f1, .string x.f2, .slice A x.f3.length c], .int .i64 (d : Nat), v] w fun e w' => FlatAns base x d l v.ownBlock w e w' := by
  intro N
  induction N with
  | zero => intro x h; cases x; simp at h
  | succ N ih =>
    intro x hN A c w0 w base d v l hC hB hb0 hb1 hR hp hd
    obtain ⟨f0, f1, f2, f3⟩ := x
    dsimp only at hC hN ⊢
    obtain ⟨n, hn⟩ : ∃ n, n = f3.length := ⟨_, rfl⟩
    obtain ⟨Av, mv, cv, rfl, hmv⟩ := R_sl hR
    have HC := Lib.hid hC
    have HB := Lib.hid hB
    have Hb0 := Lib.hid hb0
    have Hb1 := Lib.hid hb1
    have Hn := Lib.hid hn
    have Hmv := Lib.hid hmv
    have IH := Lib.hid ih
    have HN := Lib.hid hN
    have hnm : n ≤ 9223372036854775807 := by rw [hn]; exact Kd.C_max hC
    have hm12 : mv ≤ 12 := by omega
    have HX : Hid ((w.alloc (.cells #[.int .i64 f0, .int .i64 f1, .string f2, .slice A n c] 87)).heap[w.heap.size]? = some (.cells #[.int .i64 f0, .int .i64 f1, .string f2, .slice A n c] 87 (0, 0))) := Lib.hid (blk_new w _)
    have HR1 := Lib.hid (Kd.R_alloc hR (.cells #[.int .i64 f0, .int .i64 f1, .string f2, .slice A n c] 87))
    have HB1 : Hid (w.grownBy (w.alloc (.cells #[.int .i64 f0, .int .i64 f1, .string f2, .slice A n c] 87)) (Value.slice Av mv cv).ownBlock) := Lib.hid (World.grownBy_alloc _ _ _)
    have Hbs := Lib.hid (Kd.R_base hR)
    have HB01 : Hid (Below w0.heap.size w0 (w.alloc (.cells #[.int .i64 f0, .int .i64 f1, .string f2, .slice A n c] 87))) := Lib.hid (hB.alloc hB.size _)
    have Hs1 : Hid (base ≤ (w.alloc (.cells #[.int .i64 f0, .int .i64 f1, .string f2, .slice A n c] 87)).heap.size) := Lib.hid (by rw [World.size_alloc]; omega)
    rw [← hn]
    obtain ⟨q, hq⟩ : ∃ q, q = l.length + 1 := ⟨_, rfl⟩
    have Hq := Lib.hid hq
    have hqm : mv + 1 = q := by omega
    clear hC hB hR hn hmv ih hN hb0 hb1 hq hp
    go_enter Try.func59, Try.ntmps59
    go_upto_region 1 with (fail)
    generalize w.alloc (.cells #[.int .i64 f0, .int .i64 f1, .string f2, .slice A n c] 87) = W1 at *
    obtain ⟨g, hg⟩ : ∃ g, g = w.heap.size := ⟨_, rfl⟩
    rw [← hg] at HX ⊢
    clear hg
    have x0 : W1.cell? ⟨g, 0, none⟩ = some (.int .i64 f0) := blk_at HX.out 0 rfl
    have x1 : W1.cell? ⟨g, 1, none⟩ = some (.int .i64 f1) := blk_at HX.out 1 rfl
    have x2 : W1.cell? ⟨g, 2, none⟩ = some (.string f2) := blk_at HX.out 2 rfl
    have x3 : W1.cell? ⟨g, 3, none⟩ = some (.slice A n c) := blk_at HX.out 3 rfl
    by_cases h1 : 12 < q
    · have k1 : decide (12 ≤ (mv : Int)) = true := decide_eq_true (by omega)
      have H1 := Lib.hid h1
      have HV : Hid (chkV ⟨f0, f1, f2, f3⟩ d l.length = (22, q)) := Lib.hid (by rw [chkV_eq _ _ _ _ _ _ _ Hq.out, if_pos H1.out])
      skip
      go_wp2_with (fail)
      go_ret2
      refine ⟨.slice Av mv cv, l, by rw [HV.out]; rfl, HR1, HB1, Lib.hid (.inl rfl), Lib.hid (fun h => ?_)⟩
      rw [HV.out] at h
      simp at h
    have k1 : decide (12 ≤ (mv : Int)) = false := decide_eq_false (by omega)
    have H1 := Lib.hid h1
    obtain ⟨ob, hob⟩ : ∃ ob, ob = decide ((f1 ≠ 0 ∧ f0 ≠ 1) ∨ (f2 ≠ ⟨#[]⟩ ∧ f0 ≠ 2) ∨ (0 < n ∧ f0 ≠ 3)) := ⟨_, rfl⟩
    have Hob := Lib.hid hob
    clear hob
    go_upto_region 3 with (fail)
    go_cut [8] (fun v8 wx => v8 = .bool ob ∧ W1 = wx)
    case first =>
      by_cases e1 : f1 = 0
      · have k4 : (f1 == 0) = true := by simp [e1]
        have k5 : (f1 != 0) = false := by simp [e1]
        have E1 := Lib.hid e1
        clear e1
        by_cases e2 : f2 = ⟨#[]⟩
        · subst e2
          by_cases e3 : 0 < n
          · have k8 : decide (0 < (n : Int)) = true := decide_eq_true (by omega)
            have E3 := Lib.hid e3
            clear e3
            by_cases g3 : f0 = 3
            · have q3 : (f0 == 3) = true := by simp [g3]
              have q4 : (f0 != 3) = false := by simp [g3]
              have G3 := Lib.hid g3
              clear g3
              go_wp2_with (fail)
              go_meet
              have e1 := E1.out
              have e3 := E3.out
              have g3 := G3.out
              exact ⟨by rw [Hob.out]; first | (congr 1; simp [*]; done) | (congr 1; simp_all; done) | (congr 1; simp [*]; omega), rfl⟩
            have q3 : (f0 == 3) = false := by simp [g3]
            have q4 : (f0 != 3) = true := by simp [g3]
            have G3 := Lib.hid g3
            clear g3
            go_wp2_with (fail)
            go_meet
            have e1 := E1.out
            have e3 := E3.out
            have g3 := G3.out
            exact ⟨by rw [Hob.out]; first | (congr 1; simp [*]; done) | (congr 1; simp_all; done) | (congr 1; simp [*]; omega), rfl⟩
          have k8 : decide (0 < (n : Int)) = false := decide_eq_false (by omega)
          have E3 := Lib.hid e3
          clear e3
          go_wp2_with (fail)
          go_meet
          have e1 := E1.out
          have e3 := E3.out
          exact ⟨by rw [Hob.out]; first | (congr 1; simp [*]; done) | (congr 1; simp_all; done) | (congr 1; simp [*]; omega), rfl⟩
        have k6 : ¬ f2.toList = [] := toList_ne e2
        have k7 : f2.toList.isEmpty = false := by simpa using k6
        have E2 := Lib.hid e2
        clear e2
        by_cases g2 : f0 = 2
        · have q1 : (f0 == 2) = true := by simp [g2]
          have q2 : (f0 != 2) = false := by simp [g2]
          have G2 := Lib.hid g2
          clear g2
          by_cases e3 : 0 < n
          · have k8 : decide (0 < (n : Int)) = true := decide_eq_true (by omega)
            have E3 := Lib.hid e3
            clear e3
            by_cases g3 : f0 = 3
            · have q3 : (f0 == 3) = true := by simp [g3]
              have q4 : (f0 != 3) = false := by simp [g3]
              have G3 := Lib.hid g3
              clear g3
              go_wp2_with (fail)
              go_meet
              have e1 := E1.out
              have e2 := E2.out
              have g2 := G2.out
              have e3 := E3.out
              have g3 := G3.out
              exact ⟨by rw [Hob.out]; first | (congr 1; simp [*]; done) | (congr 1; simp_all; done) | (congr 1; simp [*]; omega), rfl⟩
            have q3 : (f0 == 3) = false := by simp [g3]
            have q4 : (f0 != 3) = true := by simp [g3]
            have G3 := Lib.hid g3
            clear g3
            go_wp2_with (fail)
            go_meet
            have e1 := E1.out
            have e2 := E2.out
            have g2 := G2.out
            have e3 := E3.out
            have g3 := G3.out
            exact ⟨by rw [Hob.out]; first | (congr 1; simp [*]; done) | (congr 1; simp_all; done) | (congr 1; simp [*]; omega), rfl⟩
          have k8 : decide (0 < (n : Int)) = false := decide_eq_false (by omega)
          have E3 := Lib.hid e3
          clear e3
          go_wp2_with (fail)
          go_meet
          have e1 := E1.out
          have e2 := E2.out
          have g2 := G2.out
          have e3 := E3.out
          exact ⟨by rw [Hob.out]; first | (congr 1; simp [*]; done) | (congr 1; simp_all; done) | (congr 1; simp [*]; omega), rfl⟩
        have q1 : (f0 == 2) = false := by simp [g2]
        have q2 : (f0 != 2) = true := by simp [g2]
        have G2 := Lib.hid g2
        clear g2
        go_wp2_with (fail)
        go_meet
        have e1 := E1.out
        have e2 := E2.out
        have g2 := G2.out
        exact ⟨by rw [Hob.out]; first | (congr 1; simp [*]; done) | (congr 1; simp_all; done) | (congr 1; simp [*]; omega), rfl⟩
      have k4 : (f1 == 0) = false := by simp [e1]
      have k5 : (f1 != 0) = true := by simp [e1]
      have E1 := Lib.hid e1
      clear e1
      by_cases g1 : f0 = 1
      · have q5 : (f0 == 1) = true := by simp [g1]
        have q6 : (f0 != 1) = false := by simp [g1]
        have G1 := Lib.hid g1
        clear g1
        by_cases e2 : f2 = ⟨#[]⟩
        · subst e2
          by_cases e3 : 0 < n
          · have k8 : decide (0 < (n : Int)) = true := decide_eq_true (by omega)
            have E3 := Lib.hid e3
            clear e3
            by_cases g3 : f0 = 3
            · have q3 : (f0 == 3) = true := by simp [g3]
              have q4 : (f0 != 3) = false := by simp [g3]
              have G3 := Lib.hid g3
              clear g3
              go_wp2_with (fail)
              go_meet
              have e1 := E1.out
              have g1 := G1.out
              have e3 := E3.out
              have g3 := G3.out
              exact ⟨by rw [Hob.out]; first | (congr 1; simp [*]; done) | (congr 1; simp_all; done) | (congr 1; simp [*]; omega), rfl⟩
            have q3 : (f0 == 3) = false := by simp [g3]
            have q4 : (f0 != 3) = true := by simp [g3]
            have G3 := Lib.hid g3
            clear g3
            go_wp2_with (fail)
            go_meet
            have e1 := E1.out
            have g1 := G1.out
            have e3 := E3.out
            have g3 := G3.out
            exact ⟨by rw [Hob.out]; first | (congr 1; simp [*]; done) | (congr 1; simp_all; done) | (congr 1; simp [*]; omega), rfl⟩
          have k8 : decide (0 < (n : Int)) = false := decide_eq_false (by omega)
          have E3 := Lib.hid e3
          clear e3
          go_wp2_with (fail)
          go_meet
          have e1 := E1.out
          have g1 := G1.out
          have e3 := E3.out
          exact ⟨by rw [Hob.out]; first | (congr 1; simp [*]; done) | (congr 1; simp_all; done) | (congr 1; simp [*]; omega), rfl⟩
        have k6 : ¬ f2.toList = [] := toList_ne e2
        have k7 : f2.toList.isEmpty = false := by simpa using k6
        have E2 := Lib.hid e2
        clear e2
        by_cases g2 : f0 = 2
        · have q1 : (f0 == 2) = true := by simp [g2]
          have q2 : (f0 != 2) = false := by simp [g2]
          have G2 := Lib.hid g2
          clear g2
          by_cases e3 : 0 < n
          · have k8 : decide (0 < (n : Int)) = true := decide_eq_true (by omega)
            have E3 := Lib.hid e3
            clear e3
            by_cases g3 : f0 = 3
            · have q3 : (f0 == 3) = true := by simp [g3]
              have q4 : (f0 != 3) = false := by simp [g3]
              have G3 := Lib.hid g3
              clear g3
              go_wp2_with (fail)
              go_meet
              have e1 := E1.out
              have g1 := G1.out
              have e2 := E2.out
              have g2 := G2.out
              have e3 := E3.out
              have g3 := G3.out
              exact ⟨by rw [Hob.out]; first | (congr 1; simp [*]; done) | (congr 1; simp_all; done) | (congr 1; simp [*]; omega), rfl⟩
            have q3 : (f0 == 3) = false := by simp [g3]
            have q4 : (f0 != 3) = true := by simp [g3]
            have G3 := Lib.hid g3
            clear g3
            go_wp2_with (fail)
            go_meet
            have e1 := E1.out
            have g1 := G1.out
            have e2 := E2.out
            have g2 := G2.out
            have e3 := E3.out
            have g3 := G3.out
            exact ⟨by rw [Hob.out]; first | (congr 1; simp [*]; done) | (congr 1; simp_all; done) | (congr 1; simp [*]; omega), rfl⟩
          have k8 : decide (0 < (n : Int)) = false := decide_eq_false (by omega)
          have E3 := Lib.hid e3
          clear e3
          go_wp2_with (fail)
          go_meet
          have e1 := E1.out
          have g1 := G1.out
          have e2 := E2.out
          have g2 := G2.out
          have e3 := E3.out
          exact ⟨by rw [Hob.out]; first | (congr 1; simp [*]; done) | (congr 1; simp_all; done) | (congr 1; simp [*]; omega), rfl⟩
        have q1 : (f0 == 2) = false := by simp [g2]
        have q2 : (f0 != 2) = true := by simp [g2]
        have G2 := Lib.hid g2
        clear g2
        go_wp2_with (fail)
        go_meet
        have e1 := E1.out
        have g1 := G1.out
        have e2 := E2.out
        have g2 := G2.out
        exact ⟨by rw [Hob.out]; first | (congr 1; simp [*]; done) | (congr 1; simp_all; done) | (congr 1; simp [*]; omega), rfl⟩
      have q5 : (f0 == 1) = false := by simp [g1]
      have q6 : (f0 != 1) = true := by simp [g1]
      have G1 := Lib.hid g1
      clear g1
      go_wp2_with (fail)
      go_meet
      have e1 := E1.out
      have g1 := G1.out
      exact ⟨by rw [Hob.out]; first | (congr 1; simp [*]; done) | (congr 1; simp_all; done) | (congr 1; simp [*]; omega), rfl⟩
    case rest =>
    obtain ⟨rfl, rfl⟩ := hcut
    clear k1
    go_upto_block 0 with (fail)
    go_cut [] (fun wx => W1 = wx ∧ Hid (chkV ⟨f0, f1, f2, f3⟩ d l.length = chkL f3 (d + 1) q) ∧ Hid (0 < n → d < 3))
    case first =>
      by_cases h2 : f0 < 0 ∨ 3 < f0
      · have H2 := Lib.hid h2
        by_cases h2a : f0 < 0
        · have k2 : decide (f0 < 0) = true := decide_eq_true h2a
          have HV : Hid (chkV ⟨f0, f1, f2, f3⟩ d l.length = (20, q)) := Lib.hid (by rw [chkV_eq _ _ _ _ _ _ _ Hq.out, if_neg H1.out, if_pos H2.out])
          clear h2 h2a
          go_wp2_with (fail)
          go_ret2
          refine ⟨.slice Av mv cv, l, by rw [HV.out]; rfl, HR1, HB1, Lib.hid (.inl rfl), Lib.hid (fun h => ?_)⟩
          rw [HV.out] at h
          simp at h
        · have k2 : decide (f0 < 0) = false := decide_eq_false h2a
          have k3 : decide (3 < f0) = true := decide_eq_true (h2.resolve_left h2a)
          have HV : Hid (chkV ⟨f0, f1, f2, f3⟩ d l.length = (20, q)) := Lib.hid (by rw [chkV_eq _ _ _ _ _ _ _ Hq.out, if_neg H1.out, if_pos H2.out])
          clear h2 h2a
          go_wp2_with (fail)
          go_ret2
          refine ⟨.slice Av mv cv, l, by rw [HV.out]; rfl, HR1, HB1, Lib.hid (.inl rfl), Lib.hid (fun h => ?_)⟩
          rw [HV.out] at h
          simp at h
      have H2 := Lib.hid h2
      have k2 : decide (f0 < 0) = false := decide_eq_false (by omega)
      have k3 : decide (3 < f0) = false := decide_eq_false (by omega)
      cases ob with
      | true =>
        have H3 : Hid ((f1 ≠ 0 ∧ f0 ≠ 1) ∨ (f2 ≠ ⟨#[]⟩ ∧ f0 ≠ 2) ∨ (0 < f3.length ∧ f0 ≠ 3)) := Lib.hid (by rw [← Hn.out]; exact of_decide_eq_true Hob.out.symm)
        have HV : Hid (chkV ⟨f0, f1, f2, f3⟩ d l.length = (20, q)) := Lib.hid (by rw [chkV_eq _ _ _ _ _ _ _ Hq.out, if_neg H1.out, if_neg H2.out, if_pos H3.out])
        clear h2
        go_wp2_with (fail)
        go_ret2
        refine ⟨.slice Av mv cv, l, by rw [HV.out]; rfl, HR1, HB1, Lib.hid (.inl rfl), Lib.hid (fun h => ?_)⟩
        rw [HV.out] at h
        simp at h
      | false =>
        have H3 : Hid (¬ ((f1 ≠ 0 ∧ f0 ≠ 1) ∨ (f2 ≠ ⟨#[]⟩ ∧ f0 ≠ 2) ∨ (0 < f3.length ∧ f0 ≠ 3))) := Lib.hid (by rw [← Hn.out]; exact of_decide_eq_false Hob.out.symm)
        have hd3 : 0 < n → f0 = 3 := fun h => Classical.byContradiction fun h2 => of_decide_eq_false Hob.out.symm (.inr (.inr ⟨h, h2⟩))
        by_cases h4 : f0 = 3 ∧ 3 ≤ d
        · have H4 := Lib.hid h4
          have k4 : (f0 == 3) = true := by simp [h4.1]
          have k5 : decide (3 ≤ (d : Int)) = true := decide_eq_true (by omega)
          have HV : Hid (chkV ⟨f0, f1, f2, f3⟩ d l.length = (23, q)) := Lib.hid (by rw [chkV_eq _ _ _ _ _ _ _ Hq.out, if_neg H1.out, if_neg H2.out, if_neg H3.out, if_pos H4.out])
          clear h2 h4
          go_wp2_with (fail)
          go_ret2
          refine ⟨.slice Av mv cv, l, by rw [HV.out]; rfl, HR1, HB1, Lib.hid (.inl rfl), Lib.hid (fun h => ?_)⟩
          rw [HV.out] at h
          simp at h
        have H4 := Lib.hid h4
        have T4 : ∀ (Q : Prop), ((f0 == 3) = false → Q) → ((f0 == 3) = true → decide (3 ≤ (d : Int)) = false → Q) → Q := fun Q a b => by
          by_cases h : f0 = 3
          · exact b (by simp [h]) (decide_eq_false (by omega))
          · exact a (by simp [h])
        have HD3 : Hid (0 < n → d < 3) := Lib.hid (fun h => by have := hd3 h; omega)
        clear h4 hd3
        refine T4 _ (fun k4 => ?_) (fun k4 k5 => ?_)
        all_goals
          by_cases h5 : 24 < f2.size
          · have H5 := Lib.hid h5
            have k10 : decide (24 < (f2.size : Int)) = true := decide_eq_true (by omega)
            have HV : Hid (chkV ⟨f0, f1, f2, f3⟩ d l.length = (21, q)) := Lib.hid (by rw [chkV_eq _ _ _ _ _ _ _ Hq.out, if_neg H1.out, if_neg H2.out, if_neg H3.out, if_neg H4.out, if_pos H5.out])
            clear h2 h5 T4
            go_wp2_with (fail)
            go_ret2
            refine ⟨.slice Av mv cv, l, by rw [HV.out]; rfl, HR1, HB1, Lib.hid (.inl rfl), Lib.hid (fun h => ?_)⟩
            rw [HV.out] at h
            simp at h
          have H5 := Lib.hid h5
          have k10 : decide (24 < (f2.size : Int)) = false := decide_eq_false (by omega)
          by_cases h6 : 6 < n
          · have H6 : Hid (6 < f3.length) := Lib.hid (by rw [← Hn.out]; exact h6)
            have k11 : decide (6 < (n : Int)) = true := decide_eq_true (by omega)
            have HV : Hid (chkV ⟨f0, f1, f2, f3⟩ d l.length = (22, q)) := Lib.hid (by rw [chkV_eq _ _ _ _ _ _ _ Hq.out, if_neg H1.out, if_neg H2.out, if_neg H3.out, if_neg H4.out, if_neg H5.out, if_pos H6.out])
            clear h2 h5 T4
            go_wp2_with (fail)
            go_ret2
            refine ⟨.slice Av mv cv, l, by rw [HV.out]; rfl, HR1, HB1, Lib.hid (.inl rfl), Lib.hid (fun h => ?_)⟩
            rw [HV.out] at h
            simp at h
          have H6 : Hid (¬ 6 < f3.length) := Lib.hid (by rw [← Hn.out]; exact h6)
          have k11 : decide (6 < (n : Int)) = false := decide_eq_false (by omega)
          have HV : Hid (chkV ⟨f0, f1, f2, f3⟩ d l.length = chkL f3 (d + 1) q) := Lib.hid (by rw [chkV_eq _ _ _ _ _ _ _ Hq.out, if_neg H1.out, if_neg H2.out, if_neg H3.out, if_neg H4.out, if_neg H5.out, if_neg H6.out])
          clear h2 h5 T4
          go_wp2_with (fail)
          go_meet
          exact ⟨rfl, HV, HD3⟩
    case rest =>
    obtain ⟨rfl, HV, HD3⟩ := hcut
    have HK : Hid (k111.M W1 base (fun _ => False) ⟨f0, f1, f2, n⟩ [.int .i64 f0, .int .i64 f1, .string f2, .int .i64 n]) := Lib.hid (k111_mkM _ _ _ ⟨f0, f1, f2, n⟩)
    have HLen : Hid (l.length ≤ 12) := Lib.hid (by rw [← Hmv.out]; exact hm12)
    go_upto_region 13 with (at_builtin; refine Kd.R_append k111 (w0 := W1) base rfl (.tmp 79) (.tmp 90) 101 111 (.agg #[.int .i64 0, .int .i64 0, .string ⟨#[]⟩, .int .i64 0]) 40 rfl Try.underlying101 info111 rfl (show 0 < 4 by decide) (by decide) (.slice Av mv cv) l ⟨f0, f1, f2, n⟩ _ (fun _ => True) (fun _ => False) rfl rfl ?hp (fun _ hk => hk.elim) (fun _ _ => trivial) HR1.out (Below.refl _ _) ?hS ?hl ?_
                            case hp => exact HK.out
                            case hS => exact Hs1.out
                            case hl => have := HLen.out; omega
                            intro v1 w3 hO3 hB3 hg3 hat3
                            have HO3 := Lib.hid hO3
                            have HB3 := Lib.hid hg3
                            have HA3 : Hid (AtRow (Value.slice Av mv cv).ownBlock v1.ownBlock w.heap.size) := Lib.hid (AtRow.then (.inl rfl) hat3 HB1.out.size)
                            have HX3 := Lib.hid (blk_grown HX.out hg3 (Kd.R_ne HR1.out HX.out (by decide)))
                            have Hs3 : Hid (base ≤ w3.heap.size) := Lib.hid (Nat.le_trans Hs1.out hg3.size)
                            obtain ⟨A9, m9, c9, hv9, hm9⟩ := R_sl hO3
                            subst hv9
                            clear hO3 hB3 hg3 hat3 hm9)
    clear x0 x1 x2 x3 HK
    have HBw3 := Lib.hid (grown_then HB1.out HB3.out (.inl rfl))
    have HB03 : Hid (Below w0.heap.size w0 w3) := Lib.hid (HB01.out.trans (below_grownR HB01.out.size HB3.out (fun k e => Nat.le_trans Hb0.out (Hbs.out k e))))
    obtain ⟨hd_, hhd⟩ : ∃ h : S111, h = ⟨f0, f1, f2, n⟩ := ⟨_, rfl⟩
    have Hhd := Lib.hid hhd
    rw [← hhd] at HO3
    clear hhd HB1 HR1 HB3 HB01 HX Hs1
    go_wp2_with (fail)
    go_loopw [2, 9, 10, 11] (fun v2 v9 _ _ wr => ∃ k : Nat, k ≤ n ∧ v9 = .int .i64 k ∧ Hid ((chkL (f3.take k) (d + 1) q).1 = 0) ∧ Hid (Kd.R k111 111 wr base (fun _ => True) v2 (l ++ [hd_] ++ partsFL (f3.take k))) ∧ Hid (wr.heap[g]? = some (.cells #[.int .i64 f0, .int .i64 f1, .string f2, .slice A n c] 87 (0, 0))) ∧ Hid (w.grownBy wr (Value.slice Av mv cv).ownBlock) ∧ Hid (AtRow (Value.slice Av mv cv).ownBlock v2.ownBlock w.heap.size) ∧ Hid (Below w0.heap.size w0 wr) ∧ Hid (base ≤ wr.heap.size)) (fun _ v9 _ _ _ => n - (intOf v9).toNat)
    case atStart => exact ⟨0, Nat.zero_le _, rfl, by rw [List.take_zero, chkL_nil]; exact Lib.hid rfl, by rw [List.take_zero, partsFL_nil, List.append_nil]; exact HO3, HX3, HBw3, HA3, HB03, Hs3⟩
    case round =>
      clear HO3 HX3 HBw3 HA3 HB03 Hs3
      obtain ⟨k, hk, rfl, HE, HO, HX, HBk, HAk, HB0k, Hsk⟩ := hrel
      obtain ⟨Al, ml, cl, rfl, hml⟩ := R_sl HO.out
      have Hml := Lib.hid hml
      clear hml
      have x3 : wr.cell? ⟨g, 3, none⟩ = some (.slice A n c) := blk_at HX.out 3 rfl
      by_cases hlt : k < n
      rotate_left
      · obtain rfl : n = k := by omega
        have hfull : f3.take n = f3 := List.take_of_length_le (by rw [← Hn.out]; exact Nat.le_refl _)
        rw [hfull] at HE HO
        have HVV : Hid ((chkV ⟨f0, f1, f2, f3⟩ d l.length).1 = 0) := Lib.hid (by rw [HV.out]; exact HE.out)
        clear hfull
        go_wp2_with (fail)
        go_ret2
        refine ⟨.slice Al ml cl, _, by rw [HVV.out]; rfl, HO, HBk, HAk, Lib.hid (fun _ => ?_)⟩
        rw [partsF_eq, ← Hn.out, ← Hhd.out, List.append_assoc, List.singleton_append]
      obtain ⟨ad, A3, c3, hA3, e0, e1, e2, e3, hl3, hC3⟩ := at_T87 HC.out (k : Int) (by omega) (by rw [← Hn.out]; omega)
      subst hA3
      have hmem : rd_T87 f3 (k : Int) ∈ f3 := getD_mem _ _ _ (by rw [Int.toNat_natCast, ← Hn.out]; exact hlt)
      have hgt : f3.getD k z87 = rd_T87 f3 (k : Int) := by unfold rd_T87; rw [Int.toNat_natCast]
      have htk := chkL_take f3 z87 (d + 1) k q (by rw [← Hn.out]; exact hlt) HE.out
      have hte := chkL_err f3 z87 (d + 1) k q (by rw [← Hn.out]; exact hlt) HE.out
      have hr12 := (chk_le _).2 (f3.take k) (d + 1) q (Nat.le_refl _) (by omega) HE.out
      have hrl := (chk_parts _).2 (f3.take k) (d + 1) q (Nat.le_refl _) HE.out
      have hpt := take_succ_getD f3 z87 k (by rw [← Hn.out]; exact hlt)
      rw [hgt] at htk hte hpt
      generalize rd_T87 f3 (k : Int) = y at *
      have hll : (l ++ [hd_] ++ partsFL (f3.take k)).length = (chkL (f3.take k) (d + 1) q).2 := by
        rw [List.length_append, List.length_append, partsFL_length, List.length_singleton, hrl, Hq.out]
      obtain ⟨lk, hlk⟩ : ∃ lk, lk = l ++ [hd_] ++ partsFL (f3.take k) := ⟨_, rfl⟩
      have Hpt : Hid (l ++ [hd_] ++ partsFL (f3.take (k + 1)) = lk ++ partsF y) := Lib.hid (by rw [hpt, partsFL_append, partsFL_cons, partsFL_nil, List.append_nil, hlk, ← List.append_assoc])
      rw [← hlk] at hll HO Hml
      obtain ⟨r, hr⟩ : ∃ r, r = (chkL (f3.take k) (d + 1) q).2 := ⟨_, rfl⟩
      rw [← hr] at htk hte hr12 hll
      have hd3 := HD3.out (by omega)
      rw [Int.toNat_natCast] at e0 e1 e2 e3
      replace e0 := pw_cell_below HB0k.out e0
      replace e1 := pw_cell_below HB0k.out e1
      replace e2 := pw_cell_below HB0k.out e2
      replace e3 := pw_cell_below HB0k.out e3
      have HYY : ∀ W, Below wr.heap.size wr W → Hid (Calls Try.prog 59 #[.agg #[.int .i64 y.f0, .int .i64 y.f1, .string y.f2, .slice A3 y.f3.length c3], .int .i64 ((d + 1 : Nat) : Int), .slice Al ml cl] W fun e w' => FlatAns base y (d + 1) lk (Value.slice Al ml cl).ownBlock W e w') := fun W h => Lib.hid (IH.out y (by have := List.sizeOf_lt_of_mem hmem; have := HN.out; simp at this; omega) A3 c3 w0 W base (d + 1) _ lk hC3 (HB0k.out.trans (h.mono HB0k.out.size)) Hb0.out (Nat.le_trans Hsk.out h.size) (Kd.R_below HO.out h) (by omega) (by omega))
      have Htk := Lib.hid htk
      have Hte := Lib.hid hte
      have Hll := Lib.hid hll
      have i0 : (d : Int) + 1 ≤ 9 := by omega
      have i1 : (0 : Int) ≤ (d : Int) := by omega
      have i2 : IntKind.i64.wrap ((d : Int) + 1) = ((d + 1 : Nat) : Int) := by rw [IntKind.wrap_i64] <;> omega
      have i3 : (0 : Int) ≤ (k : Int) := by omega
      have i4 : (k : Int) < (n : Int) := by omega
      clear htk hte hmem hgt hC3 hl3 hr hr12 hrl hpt hlk hll
      have HY := HYY wr (Below.refl _ _)
      clear HYY
      go_wp2_with (go_at_call 59; refine HY.out.mono ?_; rintro e w2 ⟨v', l', rfl, hr2, hb2, ha2, hl2⟩
                   have HR2 := hr2
                   have HB2 := Lib.hid (grown_then HBk.out hb2.out HAk.out)
                   have HA2 := Lib.hid (AtRow.then HAk.out ha2.out HBk.out.size)
                   have HB02 : Hid (Below w0.heap.size w0 w2) := Lib.hid (HB0k.out.trans (below_grownR HB0k.out.size hb2.out (fun q e => Nat.le_trans Hb0.out (Kd.R_base HO.out q e))))
                   have Hs2 : Hid (base ≤ w2.heap.size) := Lib.hid (Nat.le_trans Hsk.out hb2.out.size)
                   have HX2 := Lib.hid (blk_grown HX.out hb2.out (Kd.R_ne HO.out HX.out (by decide)))
                   have HL2 := hl2
                   clear hr2 hb2 ha2 hl2
                   rw [Hll.out] at HL2
                   rw [Hll.out]
                   generalize hz : chkV y (d + 1) r = z at *
                   clear hz
                   obtain ⟨z1, z2⟩ := z
                   dsimp only at HL2 ⊢
                   by_cases hz0 : z1 = 0
                   subst hz0)
      · go_roundw
        case rel =>
          refine ⟨k + 1, by omega, by go_num, ?_, ?_, HX2, HB2, HA2, HB02, Hs2⟩
          · rw [Htk.out]; exact Lib.hid (by simp)
          · rw [Hpt.out, ← HL2.out rfl]; exact HR2
        case measure => simp [intOf]; omega
      · have HVV : Hid (chkV ⟨f0, f1, f2, f3⟩ d l.length = (z1, z2)) := Lib.hid (HV.out.trans (Hte.out hz0))
        have k1 : (z1 == 0) = false := beq_false_of_ne hz0
        have k2 : (z1 != 0) = true := by simp [hz0]
        have HZ := Lib.hid hz0
        clear hz0
        go_wp2_with (fail)
        go_ret2
        refine ⟨v', _, by rw [HVV.out]; rfl, HR2, HB2, HA2, Lib.hid (fun h => ?_)⟩
        rw [HVV.out] at h
        exact absurd h HZ.out
end Go.Proofs.Ytpplnhefpcofoaa.PDeltaJoin
