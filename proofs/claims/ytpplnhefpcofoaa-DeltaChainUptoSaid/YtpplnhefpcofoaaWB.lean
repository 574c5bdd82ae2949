/- plain, walked. -/
import Derived.Test.YtpplnhefpcofoaaPP
namespace Go.Proofs.Ytpplnhefpcofoaa.PDeltaJoin
open Go.RowKit Go.Proofs.YtpplnhefpcofoaaW.PrintWords Go.Proofs.YtpplnhefpcofoaaW.PrintLast
set_option linter.unusedVariables false
set_option linter.unusedSimpArgs false

/-- A state and a number, answered. -/
def SA (z : S24) (m : Int) (w : World) (e : Ending) (w' : World) : Prop :=
  ∃ A c, e = .returned (.tuple #[.agg #[.int .i64 z.f0, .slice A z.f1.length c], .int .i64 m]) ∧ Hid (Kd.C k63 w' A z.f1.length z.f1) ∧ Hid (Below w.heap.size w w') ∧ Hid (z.f1.length ≤ c)
theorem ApplyAns.sa {r : Int × List S63 × Int} {w w' : World} {e : Ending} (h : ApplyAns r w e w') : SA ⟨r.1, r.2.1⟩ r.2.2 w e w' := by
  obtain ⟨v, rfl, h1, h2⟩ := h
  obtain ⟨A, c, rfl, l1, C1⟩ := Kd.R_reads h1.out
  exact ⟨A, c, rfl, Lib.hid C1, h2, Lib.hid l1⟩
/-- The cell "k" lies at block b of w. -/
theorem cK_lies {w : World} {a b : Nat} (ha : w.heap[a]? = some (.cells #[.int .i64 1, .int .i64 7, .string ⟨#[]⟩, .slice none 0 0] 87 (0, 0))) (hb : w.heap[b]? = some (.cells #[.string ⟨#[107]⟩, .slice (some ⟨a, 0, none⟩) 1 1] 63 (0, 0))) : Kd.C k63 w (some ⟨b, 0, none⟩) [cK].length [cK] := by
  have h1 : Kd.C k87 w (some ⟨a, 0, none⟩) [v7].length [v7] := by
    refine lit_C k87 (inner := [.int .i64 1, .int .i64 7, .string ⟨#[]⟩, .slice none 0 0]) ?_ ha (by decide)
    have hm : k87.K w v7 [.int .i64 1, .int .i64 7, .string ⟨#[]⟩, .slice none 0 0] := k87_mk w v7 (by decide) (Kd.C_nil _ _)
    exact Reps.snoc (Reps.none _ k87.sz) hm rfl
  refine lit_C k63 (inner := [.string ⟨#[107]⟩, .slice (some ⟨a, 0, none⟩) 1 1]) ?_ hb (by decide)
  have hm : k63.K w cK [.string ⟨#[107]⟩, .slice (some ⟨a, 0, none⟩) 1 1] := k63_mk w cK (by decide) h1
  exact Reps.snoc (Reps.none _ k63.sz) hm rfl
set_option maxRecDepth 100000 in
set_option maxHeartbeats 16000000 in
theorem plain24 (w : World) : Calls Try.prog 24 #[] w fun e w' => SaysB true w e w' := by
  have K0 : Hid ((((w.alloc (.cells #[.int .i64 1, .int .i64 7, .string ⟨#[]⟩, .slice none 0 0] 87)).alloc (.cells #[.string ⟨#[107]⟩, .slice (some ⟨w.heap.size, 0, none⟩) 1 1] 63)).alloc (.cells #[.int .i64 3, .slice (some ⟨w.heap.size + 1, 0, none⟩) 1 1] 24)).heap[w.heap.size]? = some (.cells #[.int .i64 1, .int .i64 7, .string ⟨#[]⟩, .slice none 0 0] 87 (0, 0))) := Lib.hid (blk_alloc (blk_alloc (blk_new w _) _) _)
  have K1 : Hid ((((w.alloc (.cells #[.int .i64 1, .int .i64 7, .string ⟨#[]⟩, .slice none 0 0] 87)).alloc (.cells #[.string ⟨#[107]⟩, .slice (some ⟨w.heap.size, 0, none⟩) 1 1] 63)).alloc (.cells #[.int .i64 3, .slice (some ⟨w.heap.size + 1, 0, none⟩) 1 1] 24)).heap[w.heap.size + 1]? = some (.cells #[.string ⟨#[107]⟩, .slice (some ⟨w.heap.size, 0, none⟩) 1 1] 63 (0, 0))) := Lib.hid (by
    have := blk_new (w.alloc (.cells #[.int .i64 1, .int .i64 7, .string ⟨#[]⟩, .slice none 0 0] 87)) (.cells #[.string ⟨#[107]⟩, .slice (some ⟨w.heap.size, 0, none⟩) 1 1] 63)
    rw [World.size_alloc] at this
    exact blk_alloc this _)
  have K2 : Hid ((((w.alloc (.cells #[.int .i64 1, .int .i64 7, .string ⟨#[]⟩, .slice none 0 0] 87)).alloc (.cells #[.string ⟨#[107]⟩, .slice (some ⟨w.heap.size, 0, none⟩) 1 1] 63)).alloc (.cells #[.int .i64 3, .slice (some ⟨w.heap.size + 1, 0, none⟩) 1 1] 24)).heap[w.heap.size + 1 + 1]? = some (.cells #[.int .i64 3, .slice (some ⟨w.heap.size + 1, 0, none⟩) 1 1] 24 (0, 0))) := Lib.hid (by
    have := blk_new ((w.alloc (.cells #[.int .i64 1, .int .i64 7, .string ⟨#[]⟩, .slice none 0 0] 87)).alloc (.cells #[.string ⟨#[107]⟩, .slice (some ⟨w.heap.size, 0, none⟩) 1 1] 63)) (.cells #[.int .i64 3, .slice (some ⟨w.heap.size + 1, 0, none⟩) 1 1] 24)
    rw [World.size_alloc, World.size_alloc] at this
    exact this)
  have HB : Hid (Below w.heap.size w (((w.alloc (.cells #[.int .i64 1, .int .i64 7, .string ⟨#[]⟩, .slice none 0 0] 87)).alloc (.cells #[.string ⟨#[107]⟩, .slice (some ⟨w.heap.size, 0, none⟩) 1 1] 63)).alloc (.cells #[.int .i64 3, .slice (some ⟨w.heap.size + 1, 0, none⟩) 1 1] 24))) := Lib.hid ((((Below.refl _ w).alloc (Nat.le_refl _) _).alloc (by simp) _).alloc (by simp; omega) _)
  go_enter Try.func24, Try.ntmps24
  go_upto_region 2 with (fail)
  generalize (((w.alloc (.cells #[.int .i64 1, .int .i64 7, .string ⟨#[]⟩, .slice none 0 0] 87)).alloc (.cells #[.string ⟨#[107]⟩, .slice (some ⟨w.heap.size, 0, none⟩) 1 1] 63)).alloc (.cells #[.int .i64 3, .slice (some ⟨w.heap.size + 1, 0, none⟩) 1 1] 24)) = wa at *
  obtain ⟨g, hg⟩ : ∃ g, g = w.heap.size := ⟨_, rfl⟩
  rw [← hg] at K0 K1 K2 ⊢
  clear hg
  have HC : Hid (∀ W, Below wa.heap.size wa W → Kd.C k63 W (some ⟨g + 1, 0, none⟩) 1 [cK]) := Lib.hid (fun W hW => Kd.C_below (cK_lies K0.out K1.out) hW)
  obtain ⟨z, hz⟩ : ∃ z : S27, z = ⟨3, [cK], []⟩ := ⟨_, rfl⟩
  have HZ := Lib.hid hz
  obtain ⟨s, hs⟩ : ∃ s : S24, s = ⟨3, [cK]⟩ := ⟨_, rfl⟩
  have HS := Lib.hid hs
  clear hz hs
  have HD : Hid (Calls Try.prog 22 #[.agg #[.int .i64 0, .slice none 0 0], .agg #[.int .i64 3, .slice (some ⟨g + 1, 0, none⟩) 1 1]] wa fun e w' => DD z 0 wa e w') := Lib.hid (by
    have := diff22 0 [] 3 [cK] none (some ⟨g + 1, 0, none⟩) 0 1 wa (Kd.C_nil _ _) (HC.out _ (Below.refl _ _))
    refine this.mono ?_
    intro e w' h
    rw [diff_plain] at h
    have h2 := h.dd
    rw [HZ.out]
    exact h2)
  have a0 : wa.cell? ⟨(g + 1 + 1), 0, none⟩ = some (.int .i64 3) := blk_at K2.out 0 rfl
  have a1 : wa.cell? ⟨(g + 1 + 1), 1, none⟩ = some (.slice (some ⟨g + 1, 0, none⟩) 1 1) := blk_at K2.out 1 rfl
  go_upto_region 3 with (go_at_call 22; refine HD.out.mono ?_; rintro e w1 ⟨A1, c1, B1, k1, rfl, C1, G1, hb1, l1⟩
                         clear a0 a1)
  have HU : Hid (Below wa.heap.size wa (w1.alloc (.cells #[.int .i64 z.f0, .slice A1 z.f1.length c1, .slice B1 z.f2.length k1] 27))) := Lib.hid (hb1.out.alloc hb1.out.size _)
  replace C1 := Lib.hid (Kd.C_alloc C1.out (.cells #[.int .i64 z.f0, .slice A1 z.f1.length c1, .slice B1 z.f2.length k1] 27))
  replace G1 := Lib.hid (Kd.C_alloc G1.out (.cells #[.int .i64 z.f0, .slice A1 z.f1.length c1, .slice B1 z.f2.length k1] 27))
  have K3 := Lib.hid (blk_new w1 (.cells #[.int .i64 z.f0, .slice A1 z.f1.length c1, .slice B1 z.f2.length k1] 27))
  obtain ⟨b1, hb⟩ : ∃ b, b = w1.heap.size := ⟨_, rfl⟩
  rw [← hb] at K3 ⊢
  generalize w1.alloc (.cells #[.int .i64 z.f0, .slice A1 z.f1.length c1, .slice B1 z.f2.length k1] 27) = v1 at *
  clear hb hb1 HD
  have HA : Hid (Calls Try.prog 15 #[.agg #[.int .i64 8, .slice none 0 0], .agg #[.int .i64 z.f0, .slice A1 z.f1.length c1, .slice B1 z.f2.length k1]] v1 fun e w' => SA s 0 v1 e w') := Lib.hid (by
    have := apply15 8 [] z.f0 z.f1 z.f2 none A1 B1 0 c1 k1 v1 (Kd.C_nil _ _) C1.out G1.out (Nat.le_refl _) l1.out.1
    refine this.mono ?_
    intro e w' h
    rw [HZ.out, apply_plain] at h
    have h2 := h.sa
    rw [HS.out]
    exact h2)
  have a0 : v1.cell? ⟨b1, 0, none⟩ = some (.int .i64 z.f0) := blk_at K3.out 0 rfl
  have a1 : v1.cell? ⟨b1, 1, none⟩ = some (.slice A1 z.f1.length c1) := blk_at K3.out 1 rfl
  have a2 : v1.cell? ⟨b1, 2, none⟩ = some (.slice B1 z.f2.length k1) := blk_at K3.out 2 rfl
  go_upto_region 4 with (go_at_call 15; refine HA.out.mono ?_; rintro e w2 ⟨A2, c2, rfl, C2, hb2, l2⟩
                         clear a0 a1 a2)
  have HU2 : Hid (Below v1.heap.size v1 (w2.alloc (.cells #[.int .i64 s.f0, .slice A2 s.f1.length c2] 24))) := Lib.hid (hb2.out.alloc hb2.out.size _)
  replace C2 := Lib.hid (Kd.C_alloc C2.out (.cells #[.int .i64 s.f0, .slice A2 s.f1.length c2] 24))
  have K4 := Lib.hid (blk_new w2 (.cells #[.int .i64 s.f0, .slice A2 s.f1.length c2] 24))
  obtain ⟨b2, hb⟩ : ∃ b, b = w2.heap.size := ⟨_, rfl⟩
  rw [← hb] at K4 ⊢
  generalize w2.alloc (.cells #[.int .i64 s.f0, .slice A2 s.f1.length c2] 24) = v2 at *
  clear hb hb2 HA
  have HBv1 : Hid (Below wa.heap.size wa v2) := HU.out.trans (HU2.out.mono HU.out.size)
  have HBw : Hid (Below w.heap.size w v2) := HB.out.trans (HBv1.out.mono HB.out.size)
  replace K2 := Lib.hid (blk_below K2.out HBv1.out)
  replace K3 := Lib.hid (blk_below K3.out HU2.out)
  replace C1 := Lib.hid (Kd.C_below C1.out HU2.out)
  replace G1 := Lib.hid (Kd.C_below G1.out HU2.out)
  have H19 : Hid (Calls Try.prog 19 #[.agg #[.int .i64 z.f0, .slice A1 z.f1.length c1, .slice B1 z.f2.length k1], .agg #[.int .i64 3, .slice (some ⟨g + 1, 0, none⟩) 1 1, .slice none 0 0]] v2 fun e w' => SaysB true v2 e w') := Lib.hid (by
    have := sameD19 z ⟨3, [cK], []⟩ A1 (some ⟨g + 1, 0, none⟩) B1 none c1 1 k1 0 v2 v2 C1.out (HC.out _ HBv1.out) G1.out (Kd.C_nil _ _) (Below.refl _ _)
    rw [eqB_true HZ.out] at this
    exact this)
  have H18 : Hid (∀ W, Below v2.heap.size v2 W → Calls Try.prog 18 #[.agg #[.int .i64 s.f0, .slice A2 s.f1.length c2], .agg #[.int .i64 3, .slice (some ⟨g + 1, 0, none⟩) 1 1]] W fun e w' => SaysB true W e w') := Lib.hid (fun W hW => by
    have := sameS18 s ⟨3, [cK]⟩ A2 (some ⟨g + 1, 0, none⟩) c2 1 v2 W C2.out (HC.out _ HBv1.out) hW
    rw [eqB_true HS.out] at this
    exact this)
  have a0 : v2.cell? ⟨b1, 0, none⟩ = some (.int .i64 z.f0) := blk_at K3.out 0 rfl
  have a1 : v2.cell? ⟨b1, 1, none⟩ = some (.slice A1 z.f1.length c1) := blk_at K3.out 1 rfl
  have a2 : v2.cell? ⟨b1, 2, none⟩ = some (.slice B1 z.f2.length k1) := blk_at K3.out 2 rfl
  have s0 : v2.cell? ⟨(g + 1 + 1), 0, none⟩ = some (.int .i64 3) := blk_at K2.out 0 rfl
  have s1 : v2.cell? ⟨(g + 1 + 1), 1, none⟩ = some (.slice (some ⟨g + 1, 0, none⟩) 1 1) := blk_at K2.out 1 rfl
  go_wp2_with (first
    | (go_at_call 19; refine H19.out.mono ?_; rintro e u1 ⟨rfl, hb3⟩
       have HB3 : Hid (Below v2.heap.size v2 u1) := hb3
       have M2 := Lib.hid (blk_below K2.out hb3.out)
       have M4 := Lib.hid (blk_below K4.out hb3.out)
       have m0 : u1.cell? ⟨(g + 1 + 1), 0, none⟩ = some (.int .i64 3) := blk_at M2.out 0 rfl
       have m1 : u1.cell? ⟨(g + 1 + 1), 1, none⟩ = some (.slice (some ⟨g + 1, 0, none⟩) 1 1) := blk_at M2.out 1 rfl
       have n0 : u1.cell? ⟨b2, 0, none⟩ = some (.int .i64 s.f0) := blk_at M4.out 0 rfl
       have n1 : u1.cell? ⟨b2, 1, none⟩ = some (.slice A2 s.f1.length c2) := blk_at M4.out 1 rfl
       clear hb3)
    | (go_at_call 18; refine (H18.out _ HB3.out).mono ?_; rintro e u2 ⟨rfl, hb4⟩
       have HB4 : Hid (Below w.heap.size w u2) := HBw.out.trans ((HB3.out.trans (hb4.out.mono HB3.out.size)).mono HBw.out.size)
       clear hb4))
  go_ret
  exact ⟨rfl, HB4⟩
end Go.Proofs.Ytpplnhefpcofoaa.PDeltaJoin
