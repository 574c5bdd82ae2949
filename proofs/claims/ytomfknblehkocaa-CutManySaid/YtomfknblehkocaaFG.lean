/- One call of both books: the statement's plays. -/
import Derived.Test.YtomfknblehkocaaFF
import Derived.Test.YtomfknblehkocaaSA
namespace Go.Proofs.Ytomfknblehkocaa.C
open Go.RowKit Go.Proofs.YtomfknblehkocaaW.PrintWords Go.Proofs.YtomfknblehkocaaW.PrintLast
set_option linter.unusedVariables false
set_option linter.unusedSimpArgs false
def PlayPost (base : Nat) (ob oR : Nat → Nat) (g gb gr : Nat) (mode back : Int) (n M : Nat) (w : World) (e : Ending) (w' : World) : Prop :=
  e = .returned (.bool true) ∧ ∃ b' r' ob' oR', PairAt w' base ob' oR' g gb gr b' r' ∧ Upd (both ob oR) w (both ob' oR') w' ∧ Rel b' r' mode back n ∧ Fit b' mode back n M ∧ partsTs r'.list ≤ M
theorem Upd.at0 {o1 o2 : Nat → Nat} {w w' : World} (u : Upd o1 w o2 w') {k : Nat} {o : Obj} (hk : k < w.heap.size) (h0 : o1 k = 0) : o2 k = 0 := u.same k hk h0
theorem yes_eq {z : Bool} {v : Value} (h : v = .bool (z == z)) : Ending.returned v = .returned (.bool true) := by rw [h]; simp
theorem yes_int {z : Int} {v : Value} (h : v = .bool (z == z)) : Ending.returned v = .returned (.bool true) := by rw [h]; simp
theorem Away.now' {α : Type} {d : Kd α} {own own' : Nat → Nat} {w w' : World} {A : Option Addr} {xs : List α} (h : Away d own w A xs) (u : Upd own w own' w') : Kd.C d w' A xs.length xs := h _ _ u
section
variable {w : World} {base : Nat} {ob oR : Nat → Nat} {g gb gr : Nat} {b : Bk} {r : Rk} {mode back : Int} {n NN : Nat}

set_option maxRecDepth 100000 in
set_option maxHeartbeats 4000000 in
theorem plays28_took (h : PairAt w base ob oR g gb gr b r) (hR : Rel b r mode back n) (hm : mode = 1 ∨ mode = 2 ∨ mode = 3) (hn : 1 ≤ n) (hlo : -1 ≤ back) (hbn : ¬ (back = 0 ∧ n = 1)) (hF : Fit b mode back n NN) (hT : partsTs r.list ≤ NN) (hN : NN ≤ 50000) (o : S47) (A8 : Option Addr) (c8 : Nat) (A9 : Option Addr) (c9 : Nat) (A10 : Option Addr) (c10 : Nat) (A11 : Option Addr) (c11 : Nat) (A13 : Option Addr) (c13 : Nat) (a8 : Away k42 (both ob oR) w A8 o.f4.f1.f3) (l8 : o.f4.f1.f3.length ≤ c8) (a9 : Away (Kd.int .i64) (both ob oR) w A9 o.f4.f2) (l9 : o.f4.f2.length ≤ c9) (a10 : Away k45 (both ob oR) w A10 o.f5) (l10 : o.f5.length ≤ c10) (a11 : Away k45 (both ob oR) w A11 o.f6) (l11 : o.f6.length ≤ c11) (a13 : Away k104 (both ob oR) w A13 o.f7.f1) (l13 : o.f7.f1.length ≤ c13) (hpo : partsO o ≤ 20000) (hk : o.f0 = 1) : Calls Try.prog 28 #[.pointer (some ⟨g, 0, none⟩), .agg #[.int .i64 o.f0, .int .i64 o.f1, .int .i64 o.f2, .int .i64 o.f3, .string o.f4.f0, .int .i64 o.f4.f1.f0, .int .i64 o.f4.f1.f1, .string o.f4.f1.f2, .slice A8 o.f4.f1.f3.length c8, .slice A9 o.f4.f2.length c9, .slice A10 o.f5.length c10, .slice A11 o.f6.length c11, .int .i64 o.f7.f0, .slice A13 o.f7.f1.length c13]] w fun e w' => PlayPost base ob oR g gb gr mode back n (NN + partsO o) w e w' := by
  have HTE : Hid (r.tookE o.f2 = b.tookE o.f2) := hR.tookE o.f2
  have HP := Lib.hid h
  have HR := Lib.hid hR
  have HM := Lib.hid hm
  have HN := Lib.hid hn
  have HLO := Lib.hid hlo
  have HBN := Lib.hid hbn
  have HF := Lib.hid hF
  have HT := Lib.hid hT
  have HNN := Lib.hid hN
  have HA8 := Lib.hid a8
  have HA9 := Lib.hid a9
  have HA10 := Lib.hid a10
  have HA11 := Lib.hid a11
  have HA13 := Lib.hid a13
  have HL8 := Lib.hid l8
  have HL9 := Lib.hid l9
  have HL10 := Lib.hid l10
  have HL11 := Lib.hid l11
  have HL13 := Lib.hid l13
  have HPO := Lib.hid hpo
  have hu : partsR o.f4 ≤ 20000 ∧ partsC o.f7.f1 ≤ 20000 ∧ partsRs o.f5 ≤ 20000 ∧ partsRs o.f6 ≤ 20000 := by unfold partsO at hpo; omega
  have HU := Lib.hid hu
  have HP0 : Hid (PairAt (w.alloc (.cells #[.int .i64 o.f0, .int .i64 o.f1, .int .i64 o.f2, .int .i64 o.f3, .string o.f4.f0, .int .i64 o.f4.f1.f0, .int .i64 o.f4.f1.f1, .string o.f4.f1.f2, .slice A8 o.f4.f1.f3.length c8, .slice A9 o.f4.f2.length c9, .slice A10 o.f5.length c10, .slice A11 o.f6.length c11, .int .i64 o.f7.f0, .slice A13 o.f7.f1.length c13] 47)) base ob oR g gb gr b r) := h.below ((Below.refl _ _).alloc (Nat.le_refl _) _)
  have HUA : Hid (Upd (both ob oR) w (both ob oR) (w.alloc (.cells #[.int .i64 o.f0, .int .i64 o.f1, .int .i64 o.f2, .int .i64 o.f3, .string o.f4.f0, .int .i64 o.f4.f1.f0, .int .i64 o.f4.f1.f1, .string o.f4.f1.f2, .slice A8 o.f4.f1.f3.length c8, .slice A9 o.f4.f2.length c9, .slice A10 o.f5.length c10, .slice A11 o.f6.length c11, .int .i64 o.f7.f0, .slice A13 o.f7.f1.length c13] 47))) := Upd.of_below ((Below.refl _ _).alloc (Nat.le_refl _) _) (fun _ _ => rfl)
  have HU0 : Hid (Upd (both ob oR) (w.alloc (.cells #[.int .i64 o.f0, .int .i64 o.f1, .int .i64 o.f2, .int .i64 o.f3, .string o.f4.f0, .int .i64 o.f4.f1.f0, .int .i64 o.f4.f1.f1, .string o.f4.f1.f2, .slice A8 o.f4.f1.f3.length c8, .slice A9 o.f4.f2.length c9, .slice A10 o.f5.length c10, .slice A11 o.f6.length c11, .int .i64 o.f7.f0, .slice A13 o.f7.f1.length c13] 47)) (both ob oR) (w.alloc (.cells #[.int .i64 o.f0, .int .i64 o.f1, .int .i64 o.f2, .int .i64 o.f3, .string o.f4.f0, .int .i64 o.f4.f1.f0, .int .i64 o.f4.f1.f1, .string o.f4.f1.f2, .slice A8 o.f4.f1.f3.length c8, .slice A9 o.f4.f2.length c9, .slice A10 o.f5.length c10, .slice A11 o.f6.length c11, .int .i64 o.f7.f0, .slice A13 o.f7.f1.length c13] 47))) := Upd.refl _ _
  have HX0 : Hid (((w.alloc (.cells #[.int .i64 o.f0, .int .i64 o.f1, .int .i64 o.f2, .int .i64 o.f3, .string o.f4.f0, .int .i64 o.f4.f1.f0, .int .i64 o.f4.f1.f1, .string o.f4.f1.f2, .slice A8 o.f4.f1.f3.length c8, .slice A9 o.f4.f2.length c9, .slice A10 o.f5.length c10, .slice A11 o.f6.length c11, .int .i64 o.f7.f0, .slice A13 o.f7.f1.length c13] 47))).heap[w.heap.size]? = some (.cells #[.int .i64 o.f0, .int .i64 o.f1, .int .i64 o.f2, .int .i64 o.f3, .string o.f4.f0, .int .i64 o.f4.f1.f0, .int .i64 o.f4.f1.f1, .string o.f4.f1.f2, .slice A8 o.f4.f1.f3.length c8, .slice A9 o.f4.f2.length c9, .slice A10 o.f5.length c10, .slice A11 o.f6.length c11, .int .i64 o.f7.f0, .slice A13 o.f7.f1.length c13] 47 (0, 0))) := blk_new w _
  have HFR : Hid (both ob oR w.heap.size = 0) := h.free (Nat.le_refl _)
  have hgl : g < w.heap.size := blk_lt h.hg
  have p0 : w.cell? ⟨g, 0, none⟩ = some (.pointer (some ⟨gb, 0, none⟩)) := blk_at h.hg 0 rfl
  have p1 : w.cell? ⟨g, 1, none⟩ = some (.pointer (some ⟨gr, 0, none⟩)) := blk_at h.hg 1 rfl
  clear h hR hm hn hlo hbn hF hT hN a8 l8 a9 l9 a10 l10 a11 l11 a13 l13 hpo hu
  have k1' : (o.f0 == 1) = true := by simp [hk]
  clear hk
  go_enter Try.func28, Try.ntmps28
  go_wp2
  refine start_ (n := 10) (S := (fun w' => w'.cell? ⟨g, 1, none⟩ = some (.pointer (some ⟨gr, 0, none⟩)) ∧ w'.cell? ⟨w.heap.size, 2, none⟩ = some (.int .i64 o.f2) ∧ w'.cell? ⟨w.heap.size, 4, none⟩ = some (.string o.f4.f0) ∧ w'.cell? ⟨w.heap.size, 5, none⟩ = some (.int .i64 o.f4.f1.f0) ∧ w'.cell? ⟨w.heap.size, 6, none⟩ = some (.int .i64 o.f4.f1.f1) ∧ w'.cell? ⟨w.heap.size, 7, none⟩ = some (.string o.f4.f1.f2) ∧ w'.cell? ⟨w.heap.size, 8, none⟩ = some (.slice A8 o.f4.f1.f3.length c8) ∧ w'.cell? ⟨w.heap.size, 9, none⟩ = some (.slice A9 o.f4.f2.length c9))) (ds := [8]) #[false, false, false, false, false, false, false, false, false, false] (by kernel_rfl) rfl rfl ⟨blk_at HP0.out.hg 1 rfl, blk_at HX0.out 2 rfl, blk_at HX0.out 4 rfl, blk_at HX0.out 5 rfl, blk_at HX0.out 6 rfl, blk_at HX0.out 7 rfl, blk_at HX0.out 8 rfl, blk_at HX0.out 9 rfl⟩ (fun hHeld => ?_)
  have HPW : Hid (PairAt (w.alloc (.cells #[.int .i64 o.f0, .int .i64 o.f1, .int .i64 o.f2, .int .i64 o.f3, .string o.f4.f0, .int .i64 o.f4.f1.f0, .int .i64 o.f4.f1.f1, .string o.f4.f1.f2, .slice A8 o.f4.f1.f3.length c8, .slice A9 o.f4.f2.length c9, .slice A10 o.f5.length c10, .slice A11 o.f6.length c11, .int .i64 o.f7.f0, .slice A13 o.f7.f1.length c13] 47)).drew base ob oR g gb gr b r) := HP0.out.below (Below.refl _ _).drew
  have HXW : Hid ((w.alloc (.cells #[.int .i64 o.f0, .int .i64 o.f1, .int .i64 o.f2, .int .i64 o.f3, .string o.f4.f0, .int .i64 o.f4.f1.f0, .int .i64 o.f4.f1.f1, .string o.f4.f1.f2, .slice A8 o.f4.f1.f3.length c8, .slice A9 o.f4.f2.length c9, .slice A10 o.f5.length c10, .slice A11 o.f6.length c11, .int .i64 o.f7.f0, .slice A13 o.f7.f1.length c13] 47)).drew.heap[w.heap.size]? = some (.cells #[.int .i64 o.f0, .int .i64 o.f1, .int .i64 o.f2, .int .i64 o.f3, .string o.f4.f0, .int .i64 o.f4.f1.f0, .int .i64 o.f4.f1.f1, .string o.f4.f1.f2, .slice A8 o.f4.f1.f3.length c8, .slice A9 o.f4.f2.length c9, .slice A10 o.f5.length c10, .slice A11 o.f6.length c11, .int .i64 o.f7.f0, .slice A13 o.f7.f1.length c13] 47 (0, 0))) := HX0.out
  have HUW : Hid (Upd (both ob oR) (w.alloc (.cells #[.int .i64 o.f0, .int .i64 o.f1, .int .i64 o.f2, .int .i64 o.f3, .string o.f4.f0, .int .i64 o.f4.f1.f0, .int .i64 o.f4.f1.f1, .string o.f4.f1.f2, .slice A8 o.f4.f1.f3.length c8, .slice A9 o.f4.f2.length c9, .slice A10 o.f5.length c10, .slice A11 o.f6.length c11, .int .i64 o.f7.f0, .slice A13 o.f7.f1.length c13] 47)) (both ob oR) (w.alloc (.cells #[.int .i64 o.f0, .int .i64 o.f1, .int .i64 o.f2, .int .i64 o.f3, .string o.f4.f0, .int .i64 o.f4.f1.f0, .int .i64 o.f4.f1.f1, .string o.f4.f1.f2, .slice A8 o.f4.f1.f3.length c8, .slice A9 o.f4.f2.length c9, .slice A10 o.f5.length c10, .slice A11 o.f6.length c11, .int .i64 o.f7.f0, .slice A13 o.f7.f1.length c13] 47)).drew) := HU0.out.trans (Upd.of_below (Below.refl _ _).drew (fun _ _ => rfl))
  clear HP0 HX0 HU0
  generalize (w.alloc (.cells #[.int .i64 o.f0, .int .i64 o.f1, .int .i64 o.f2, .int .i64 o.f3, .string o.f4.f0, .int .i64 o.f4.f1.f0, .int .i64 o.f4.f1.f1, .string o.f4.f1.f2, .slice A8 o.f4.f1.f3.length c8, .slice A9 o.f4.f2.length c9, .slice A10 o.f5.length c10, .slice A11 o.f6.length c11, .int .i64 o.f7.f0, .slice A13 o.f7.f1.length c13] 47)).drew = WW at hHeld HPW HXW HUW ⊢
  obtain ⟨Ar, cr, hr0⟩ := HPW.out.hr
  have HT49 := Lib.hid (took49 hr0 HPW.out.bs o.f2 o.f4 A8 c8 (HA8.out.now' (HUA.out.trans HUW.out)) HL8.out A9 c9 (HA9.out.now' (HUA.out.trans HUW.out)) HL9.out (by have := HU.out.1; omega) (RSz.of HT.out (by have := HNN.out; omega)).len)
  clear hr0
  refine pure_ (i := 0) (N := some 21) (v := ?_) (a' := ?_) #[true, false, false, false, false, false, false, false, false, false] rfl rfl (by kernel_rfl) (fun _ _ _ h => h) (Or.inl ⟨by rfl, ?_⟩) ?_ ?_
  rotate_left
  · intro w'
    go_simp
    with_reducible rfl
  rotate_left
  · simp only [Act.put, List.setIfInBounds_toArray, List.set_cons_zero, List.set_cons_succ]
    rfl
  refine pure_ (i := 1) (N := some 22) (v := ?_) (a' := ?_) #[true, true, false, false, false, false, false, false, false, false] rfl rfl (by kernel_rfl) (fun _ _ _ h => h) (Or.inl ⟨by rfl, ?_⟩) ?_ ?_
  rotate_left
  · intro w'
    go_simp
    with_reducible rfl
  rotate_left
  · simp only [Act.put, List.setIfInBounds_toArray, List.set_cons_zero, List.set_cons_succ]
    rfl
  refine pure_ (i := 2) (N := some 23) (v := ?_) (a' := ?_) #[true, true, true, false, false, false, false, false, false, false] rfl rfl (by kernel_rfl) (fun _ _ _ h => h) (Or.inl ⟨by rfl, ?_⟩) ?_ ?_
  rotate_left
  · intro w'
    go_simp
    with_reducible rfl
  rotate_left
  · simp only [Act.put, List.setIfInBounds_toArray, List.set_cons_zero, List.set_cons_succ]
    rfl
  refine take_ (i := 3) (N := some 24) (v := ?_) (a' := ?_) #[true, true, true, true, false, false, false, false, false, false] rfl rfl (by kernel_rfl) (fun _ _ _ h => h) (Or.inl ⟨by rfl, ?_⟩) hHeld ?_ ?_
  rotate_left
  · rintro w' ⟨s0, s1, s2, s3, s4, s5, s6, s7⟩
    go_simp
    with_reducible rfl
  rotate_left
  · simp only [Act.put, List.setIfInBounds_toArray, List.set_cons_zero, List.set_cons_succ]
    rfl
  refine pure_ (i := 4) (N := some 25) (v := ?_) (a' := ?_) #[true, true, true, true, true, false, false, false, false, false] rfl rfl (by kernel_rfl) (fun _ _ _ h => h) (Or.inl ⟨by rfl, ?_⟩) ?_ ?_
  rotate_left
  · intro w'
    go_simp
    with_reducible rfl
  rotate_left
  · simp only [Act.put, List.setIfInBounds_toArray, List.set_cons_zero, List.set_cons_succ]
    rfl
  refine take_ (i := 5) (N := some 26) (v := ?_) (a' := ?_) #[true, true, true, true, true, true, false, false, false, false] rfl rfl (by kernel_rfl) (fun _ _ _ h => h) (Or.inl ⟨by rfl, ?_⟩) hHeld ?_ ?_
  rotate_left
  · rintro w' ⟨s0, s1, s2, s3, s4, s5, s6, s7⟩
    go_simp
    with_reducible rfl
  rotate_left
  · simp only [Act.put, List.setIfInBounds_toArray, List.set_cons_zero, List.set_cons_succ]
    rfl
  refine pure_ (i := 6) (N := some 27) (v := ?_) (a' := ?_) #[true, true, true, true, true, true, true, false, false, false] rfl rfl (by kernel_rfl) (fun _ _ _ h => h) (Or.inl ⟨by rfl, ?_⟩) ?_ ?_
  rotate_left
  · intro w'
    go_simp
    with_reducible rfl
  rotate_left
  · simp only [Act.put, List.setIfInBounds_toArray, List.set_cons_zero, List.set_cons_succ]
    rfl
  refine take_ (i := 7) (N := some 28) (v := ?_) (a' := ?_) #[true, true, true, true, true, true, true, true, false, false] rfl rfl (by kernel_rfl) (fun _ _ _ h => h) (Or.inl ⟨by rfl, ?_⟩) hHeld ?_ ?_
  rotate_left
  · rintro w' ⟨s0, s1, s2, s3, s4, s5, s6, s7⟩
    go_simp
    with_reducible rfl
  rotate_left
  · simp only [Act.put, List.setIfInBounds_toArray, List.set_cons_zero, List.set_cons_succ]
    rfl
  refine last_ (i := 8) (N := some 29) #[true, true, true, true, true, true, true, true, true, false] rfl rfl (by kernel_rfl) (by decide) (fun K hK => ?_)
  refine goes_ Try.func49 (by kernel_rfl) rfl #[.pointer (some ⟨gr, 0, none⟩), .int .i64 o.f2, .agg #[.string o.f4.f0, .int .i64 o.f4.f1.f0, .int .i64 o.f4.f1.f1, .string o.f4.f1.f2, .slice A8 o.f4.f1.f3.length c8, .slice A9 o.f4.f2.length c9]] (by rfl) rfl rfl (by simp only [List.map_toArray, List.map_cons, List.map_nil]; rfl) ?_
  refine (HT49.out).mono ?_
  rintro e w1 ⟨he, hp⟩
  rw [HTE.out] at he
  subst he
  refine ⟨_, rfl, ?_⟩
  refine hK.out _ _ ?_
  clear hK K HT49
  obtain ⟨oR1, hp1, hu1⟩ := HPW.out.stepR hp
  have HP1 := Lib.hid hp1
  have HU1 : Hid (Upd (both ob oR) (w.alloc (.cells #[.int .i64 o.f0, .int .i64 o.f1, .int .i64 o.f2, .int .i64 o.f3, .string o.f4.f0, .int .i64 o.f4.f1.f0, .int .i64 o.f4.f1.f1, .string o.f4.f1.f2, .slice A8 o.f4.f1.f3.length c8, .slice A9 o.f4.f2.length c9, .slice A10 o.f5.length c10, .slice A11 o.f6.length c11, .int .i64 o.f7.f0, .slice A13 o.f7.f1.length c13] 47)) (both ob oR1) w1) := HUW.out.trans hu1
  have HX1 : Hid (w1.heap[w.heap.size]? = some (.cells #[.int .i64 o.f0, .int .i64 o.f1, .int .i64 o.f2, .int .i64 o.f3, .string o.f4.f0, .int .i64 o.f4.f1.f0, .int .i64 o.f4.f1.f1, .string o.f4.f1.f2, .slice A8 o.f4.f1.f3.length c8, .slice A9 o.f4.f2.length c9, .slice A10 o.f5.length c10, .slice A11 o.f6.length c11, .int .i64 o.f7.f0, .slice A13 o.f7.f1.length c13] 47 (0, 0))) := (hu1.block _ (blk_lt HXW.out) (HUW.out.same _ (by simp only [World.size_alloc]; omega) HFR.out)).trans HXW.out
  clear hp1 hu1
  refine norm_ (a' := ?_) ?_ ?_
  rotate_left
  · show Act.put _ (some 29) _ = _
    simp only [Act.put, List.setIfInBounds_toArray, List.set_cons_zero, List.set_cons_succ]
    rfl
  refine pure_ (i := 9) (N := some 5) (v := ?_) (a' := ?_) #[true, true, true, true, true, true, true, true, true, true] rfl rfl (by kernel_rfl) (fun _ _ _ h => h) (Or.inl ⟨by rfl, ?_⟩) ?_ ?_
  rotate_left
  · intro w'
    go_simp
    with_reducible rfl
  rotate_left
  · simp only [Act.put, List.setIfInBounds_toArray, List.set_cons_zero, List.set_cons_succ]
    rfl
  refine done_ (by kernel_rfl) ?_
  go_wp2
  refine start_ (n := 11) (S := (fun w' => w'.cell? ⟨g, 0, none⟩ = some (.pointer (some ⟨gb, 0, none⟩)) ∧ w'.cell? ⟨w.heap.size, 2, none⟩ = some (.int .i64 o.f2) ∧ w'.cell? ⟨w.heap.size, 4, none⟩ = some (.string o.f4.f0) ∧ w'.cell? ⟨w.heap.size, 5, none⟩ = some (.int .i64 o.f4.f1.f0) ∧ w'.cell? ⟨w.heap.size, 6, none⟩ = some (.int .i64 o.f4.f1.f1) ∧ w'.cell? ⟨w.heap.size, 7, none⟩ = some (.string o.f4.f1.f2) ∧ w'.cell? ⟨w.heap.size, 8, none⟩ = some (.slice A8 o.f4.f1.f3.length c8) ∧ w'.cell? ⟨w.heap.size, 9, none⟩ = some (.slice A9 o.f4.f2.length c9))) (ds := [9]) #[false, false, false, false, false, false, false, false, false, false, false] (by kernel_rfl) rfl rfl ⟨blk_at HP1.out.hg 0 rfl, blk_at HX1.out 2 rfl, blk_at HX1.out 4 rfl, blk_at HX1.out 5 rfl, blk_at HX1.out 6 rfl, blk_at HX1.out 7 rfl, blk_at HX1.out 8 rfl, blk_at HX1.out 9 rfl⟩ (fun hHeld => ?_)
  have HPW : Hid (PairAt w1.drew base ob oR1 g gb gr b (r.took o.f2 o.f4)) := HP1.out.below (Below.refl _ _).drew
  have HXW : Hid (w1.drew.heap[w.heap.size]? = some (.cells #[.int .i64 o.f0, .int .i64 o.f1, .int .i64 o.f2, .int .i64 o.f3, .string o.f4.f0, .int .i64 o.f4.f1.f0, .int .i64 o.f4.f1.f1, .string o.f4.f1.f2, .slice A8 o.f4.f1.f3.length c8, .slice A9 o.f4.f2.length c9, .slice A10 o.f5.length c10, .slice A11 o.f6.length c11, .int .i64 o.f7.f0, .slice A13 o.f7.f1.length c13] 47 (0, 0))) := HX1.out
  have HUW : Hid (Upd (both ob oR) (w.alloc (.cells #[.int .i64 o.f0, .int .i64 o.f1, .int .i64 o.f2, .int .i64 o.f3, .string o.f4.f0, .int .i64 o.f4.f1.f0, .int .i64 o.f4.f1.f1, .string o.f4.f1.f2, .slice A8 o.f4.f1.f3.length c8, .slice A9 o.f4.f2.length c9, .slice A10 o.f5.length c10, .slice A11 o.f6.length c11, .int .i64 o.f7.f0, .slice A13 o.f7.f1.length c13] 47)) (both ob oR1) w1.drew) := HU1.out.trans (Upd.of_below (Below.refl _ _).drew (fun _ _ => rfl))
  clear HP1 HX1 HU1
  generalize w1.drew = WW at hHeld HPW HXW HUW ⊢
  have HC19 := Lib.hid (copyRecord19 o.f4 A8 c8 A9 c9 WW (HA8.out.now' (HUA.out.trans HUW.out)) HL8.out (HA9.out.now' (HUA.out.trans HUW.out)) HL9.out (by have := HU.out.1; omega))
  refine pure_ (i := 0) (N := some 30) (v := ?_) (a' := ?_) #[true, false, false, false, false, false, false, false, false, false, false] rfl rfl (by kernel_rfl) (fun _ _ _ h => h) (Or.inl ⟨by rfl, ?_⟩) ?_ ?_
  rotate_left
  · intro w'
    go_simp
    with_reducible rfl
  rotate_left
  · simp only [Act.put, List.setIfInBounds_toArray, List.set_cons_zero, List.set_cons_succ]
    rfl
  refine pure_ (i := 1) (N := some 31) (v := ?_) (a' := ?_) #[true, true, false, false, false, false, false, false, false, false, false] rfl rfl (by kernel_rfl) (fun _ _ _ h => h) (Or.inl ⟨by rfl, ?_⟩) ?_ ?_
  rotate_left
  · intro w'
    go_simp
    with_reducible rfl
  rotate_left
  · simp only [Act.put, List.setIfInBounds_toArray, List.set_cons_zero, List.set_cons_succ]
    rfl
  refine pure_ (i := 2) (N := some 32) (v := ?_) (a' := ?_) #[true, true, true, false, false, false, false, false, false, false, false] rfl rfl (by kernel_rfl) (fun _ _ _ h => h) (Or.inl ⟨by rfl, ?_⟩) ?_ ?_
  rotate_left
  · intro w'
    go_simp
    with_reducible rfl
  rotate_left
  · simp only [Act.put, List.setIfInBounds_toArray, List.set_cons_zero, List.set_cons_succ]
    rfl
  refine take_ (i := 3) (N := some 33) (v := ?_) (a' := ?_) #[true, true, true, true, false, false, false, false, false, false, false] rfl rfl (by kernel_rfl) (fun _ _ _ h => h) (Or.inl ⟨by rfl, ?_⟩) hHeld ?_ ?_
  rotate_left
  · rintro w' ⟨s0, s1, s2, s3, s4, s5, s6, s7⟩
    go_simp
    with_reducible rfl
  rotate_left
  · simp only [Act.put, List.setIfInBounds_toArray, List.set_cons_zero, List.set_cons_succ]
    rfl
  refine pure_ (i := 4) (N := some 34) (v := ?_) (a' := ?_) #[true, true, true, true, true, false, false, false, false, false, false] rfl rfl (by kernel_rfl) (fun _ _ _ h => h) (Or.inl ⟨by rfl, ?_⟩) ?_ ?_
  rotate_left
  · intro w'
    go_simp
    with_reducible rfl
  rotate_left
  · simp only [Act.put, List.setIfInBounds_toArray, List.set_cons_zero, List.set_cons_succ]
    rfl
  refine take_ (i := 5) (N := some 35) (v := ?_) (a' := ?_) #[true, true, true, true, true, true, false, false, false, false, false] rfl rfl (by kernel_rfl) (fun _ _ _ h => h) (Or.inl ⟨by rfl, ?_⟩) hHeld ?_ ?_
  rotate_left
  · rintro w' ⟨s0, s1, s2, s3, s4, s5, s6, s7⟩
    go_simp
    with_reducible rfl
  rotate_left
  · simp only [Act.put, List.setIfInBounds_toArray, List.set_cons_zero, List.set_cons_succ]
    rfl
  refine pure_ (i := 6) (N := some 36) (v := ?_) (a' := ?_) #[true, true, true, true, true, true, true, false, false, false, false] rfl rfl (by kernel_rfl) (fun _ _ _ h => h) (Or.inl ⟨by rfl, ?_⟩) ?_ ?_
  rotate_left
  · intro w'
    go_simp
    with_reducible rfl
  rotate_left
  · simp only [Act.put, List.setIfInBounds_toArray, List.set_cons_zero, List.set_cons_succ]
    rfl
  refine take_ (i := 7) (N := some 37) (v := ?_) (a' := ?_) #[true, true, true, true, true, true, true, true, false, false, false] rfl rfl (by kernel_rfl) (fun _ _ _ h => h) (Or.inl ⟨by rfl, ?_⟩) hHeld ?_ ?_
  rotate_left
  · rintro w' ⟨s0, s1, s2, s3, s4, s5, s6, s7⟩
    go_simp
    with_reducible rfl
  rotate_left
  · simp only [Act.put, List.setIfInBounds_toArray, List.set_cons_zero, List.set_cons_succ]
    rfl
  refine one_ (i := 8) (N := some 38) #[true, true, true, true, true, true, true, true, true, false, false] rfl rfl (by kernel_rfl) (by decide) (fun K hK => ?_)
  refine goes_ Try.func19 (by kernel_rfl) rfl #[.agg #[.string o.f4.f0, .int .i64 o.f4.f1.f0, .int .i64 o.f4.f1.f1, .string o.f4.f1.f2, .slice A8 o.f4.f1.f3.length c8, .slice A9 o.f4.f2.length c9]] (by rfl) rfl rfl (by simp only [List.map_toArray, List.map_cons, List.map_nil]; rfl) ?_
  refine (HC19.out).mono ?_
  rintro e w2 ⟨u4, u5, rfl, hu4, hu5, hb2⟩
  refine ⟨_, rfl, ?_⟩
  obtain ⟨B4, d4, rfl⟩ := Kd.R_slice hu4.out
  obtain ⟨B5, d5, rfl⟩ := Kd.R_slice hu5.out
  have HPV : Hid (PairAt w2 base ob oR1 g gb gr b (r.took o.f2 o.f4)) := HPW.out.below hb2.out
  have HUV : Hid (Upd (both ob oR) (w.alloc (.cells #[.int .i64 o.f0, .int .i64 o.f1, .int .i64 o.f2, .int .i64 o.f3, .string o.f4.f0, .int .i64 o.f4.f1.f0, .int .i64 o.f4.f1.f1, .string o.f4.f1.f2, .slice A8 o.f4.f1.f3.length c8, .slice A9 o.f4.f2.length c9, .slice A10 o.f5.length c10, .slice A11 o.f6.length c11, .int .i64 o.f7.f0, .slice A13 o.f7.f1.length c13] 47)) (both ob oR1) w2) := HUW.out.trans (Upd.of_below hb2.out (fun _ _ => rfl))
  have HFW : Hid (∀ k, WW.heap.size ≤ k → ob k = 0) := fun k hk => by have := HPW.out.free hk; unfold both at this; omega
  obtain ⟨gp, gl, vc, vd, lv, hbk⟩ := HPV.out.hb
  have HT18 := Lib.hid (took18 hbk HPV.out.bs o.f2 o.f4 B4 d4 (Away.of_made hu4.out HFW.out) (Kd.R_reads' hu4.out).2.1 B5 d5 (Away.of_made hu5.out HFW.out) (Kd.R_reads' hu5.out).2.1 (by have := HU.out.1; omega) (fun i => by have := HF.out.l i; have := HNN.out; omega))
  clear hbk
  refine hK.out _ _ ⟨pw_cell_below hb2.out hHeld.1, pw_cell_below hb2.out hHeld.2.1, pw_cell_below hb2.out hHeld.2.2.1, pw_cell_below hb2.out hHeld.2.2.2.1, pw_cell_below hb2.out hHeld.2.2.2.2.1, pw_cell_below hb2.out hHeld.2.2.2.2.2.1, pw_cell_below hb2.out hHeld.2.2.2.2.2.2.1, pw_cell_below hb2.out hHeld.2.2.2.2.2.2.2⟩ (fun hHeld => ?_)
  clear hK K hu4 hu5 HPW HUW
  refine norm_ (a' := ?_) ?_ ?_
  rotate_left
  · show Act.put _ (some 38) _ = _
    simp only [Act.put, List.setIfInBounds_toArray, List.set_cons_zero, List.set_cons_succ]
    rfl
  refine last_ (i := 9) (N := some 39) #[true, true, true, true, true, true, true, true, true, true, false] rfl rfl (by kernel_rfl) (by decide) (fun K hK => ?_)
  refine goes_ Try.func18 (by kernel_rfl) rfl #[.pointer (some ⟨gb, 0, none⟩), .int .i64 o.f2, .agg #[.string o.f4.f0, .int .i64 o.f4.f1.f0, .int .i64 o.f4.f1.f1, .string o.f4.f1.f2, .slice B4 o.f4.f1.f3.length d4, .slice B5 o.f4.f2.length d5]] (by rfl) rfl rfl (by simp only [List.map_toArray, List.map_cons, List.map_nil]; rfl) ?_
  refine (HT18.out).mono ?_
  rintro e w3 ⟨rfl, hp⟩
  refine ⟨_, rfl, ?_⟩
  refine hK.out _ _ ?_
  clear hK K HT18
  obtain ⟨oB2, HP2, hu2⟩ := HPV.out.stepB hp
  have HU2 : Hid (Upd (both ob oR) (w.alloc (.cells #[.int .i64 o.f0, .int .i64 o.f1, .int .i64 o.f2, .int .i64 o.f3, .string o.f4.f0, .int .i64 o.f4.f1.f0, .int .i64 o.f4.f1.f1, .string o.f4.f1.f2, .slice A8 o.f4.f1.f3.length c8, .slice A9 o.f4.f2.length c9, .slice A10 o.f5.length c10, .slice A11 o.f6.length c11, .int .i64 o.f7.f0, .slice A13 o.f7.f1.length c13] 47)) (both oB2 oR1) w3) := HUV.out.trans hu2
  have HP2' := Lib.hid HP2
  clear HP2 hu2
  refine norm_ (a' := ?_) ?_ ?_
  rotate_left
  · show Act.put _ (some 39) _ = _
    simp only [Act.put, List.setIfInBounds_toArray, List.set_cons_zero, List.set_cons_succ]
    rfl
  refine pure_ (i := 10) (N := some 6) (v := ?_) (a' := ?_) #[true, true, true, true, true, true, true, true, true, true, true] rfl rfl (by kernel_rfl) (fun _ _ _ h => h) (Or.inl ⟨by rfl, ?_⟩) ?_ ?_
  rotate_left
  · intro w'
    go_simp
    with_reducible rfl
  rotate_left
  · simp only [Act.put, List.setIfInBounds_toArray, List.set_cons_zero, List.set_cons_succ]
    rfl
  refine done_ (by kernel_rfl) ?_
  generalize b.tookE o.f2 = z at *
  go_wp2_with (first
    | (go_at_call 15; refine (num15 _ _).mono ?_; rintro e w' ⟨rfl, rfl⟩))
  go_ret
  refine ⟨by first | rfl | exact congrArg (fun t => Ending.returned (Value.bool t)) (beq_self_eq_true z), _, _, _, _, HP2'.out, HUA.out.trans HU2.out, HR.out.took o.f2 o.f4, (HF.out.took o.f2 o.f4).mono ?_, ?_⟩
  · unfold partsO partsR; omega
  · have h1 := partsTs_took r o.f2 o.f4
    have h2 := HT.out
    unfold partsO
    omega

set_option maxRecDepth 100000 in
set_option maxHeartbeats 4000000 in
theorem plays28_mark (h : PairAt w base ob oR g gb gr b r) (hR : Rel b r mode back n) (hm : mode = 1 ∨ mode = 2 ∨ mode = 3) (hn : 1 ≤ n) (hlo : -1 ≤ back) (hbn : ¬ (back = 0 ∧ n = 1)) (hF : Fit b mode back n NN) (hT : partsTs r.list ≤ NN) (hN : NN ≤ 50000) (o : S47) (A8 : Option Addr) (c8 : Nat) (A9 : Option Addr) (c9 : Nat) (A10 : Option Addr) (c10 : Nat) (A11 : Option Addr) (c11 : Nat) (A13 : Option Addr) (c13 : Nat) (a8 : Away k42 (both ob oR) w A8 o.f4.f1.f3) (l8 : o.f4.f1.f3.length ≤ c8) (a9 : Away (Kd.int .i64) (both ob oR) w A9 o.f4.f2) (l9 : o.f4.f2.length ≤ c9) (a10 : Away k45 (both ob oR) w A10 o.f5) (l10 : o.f5.length ≤ c10) (a11 : Away k45 (both ob oR) w A11 o.f6) (l11 : o.f6.length ≤ c11) (a13 : Away k104 (both ob oR) w A13 o.f7.f1) (l13 : o.f7.f1.length ≤ c13) (hpo : partsO o ≤ 20000) (hk : o.f0 = 2) : Calls Try.prog 28 #[.pointer (some ⟨g, 0, none⟩), .agg #[.int .i64 o.f0, .int .i64 o.f1, .int .i64 o.f2, .int .i64 o.f3, .string o.f4.f0, .int .i64 o.f4.f1.f0, .int .i64 o.f4.f1.f1, .string o.f4.f1.f2, .slice A8 o.f4.f1.f3.length c8, .slice A9 o.f4.f2.length c9, .slice A10 o.f5.length c10, .slice A11 o.f6.length c11, .int .i64 o.f7.f0, .slice A13 o.f7.f1.length c13]] w fun e w' => PlayPost base ob oR g gb gr mode back n (NN + partsO o) w e w' := by
  have HME : Hid (r.markE o.f2 o.f3 = b.markE o.f2 o.f3) := hR.markE o.f2 o.f3
  have HMC : Hid (r.markC o.f2 o.f3 o.f5 o.f7 o.f6 = b.markC o.f2 o.f3 o.f5 o.f7 o.f6) := (hR.markOk hn hlo hbn o.f2 o.f3 o.f5 o.f7 o.f6).2
  have HP := Lib.hid h
  have HR := Lib.hid hR
  have HM := Lib.hid hm
  have HN := Lib.hid hn
  have HLO := Lib.hid hlo
  have HBN := Lib.hid hbn
  have HF := Lib.hid hF
  have HT := Lib.hid hT
  have HNN := Lib.hid hN
  have HA8 := Lib.hid a8
  have HA9 := Lib.hid a9
  have HA10 := Lib.hid a10
  have HA11 := Lib.hid a11
  have HA13 := Lib.hid a13
  have HL8 := Lib.hid l8
  have HL9 := Lib.hid l9
  have HL10 := Lib.hid l10
  have HL11 := Lib.hid l11
  have HL13 := Lib.hid l13
  have HPO := Lib.hid hpo
  have hu : partsR o.f4 ≤ 20000 ∧ partsC o.f7.f1 ≤ 20000 ∧ partsRs o.f5 ≤ 20000 ∧ partsRs o.f6 ≤ 20000 := by unfold partsO at hpo; omega
  have HU := Lib.hid hu
  have HP0 : Hid (PairAt (w.alloc (.cells #[.int .i64 o.f0, .int .i64 o.f1, .int .i64 o.f2, .int .i64 o.f3, .string o.f4.f0, .int .i64 o.f4.f1.f0, .int .i64 o.f4.f1.f1, .string o.f4.f1.f2, .slice A8 o.f4.f1.f3.length c8, .slice A9 o.f4.f2.length c9, .slice A10 o.f5.length c10, .slice A11 o.f6.length c11, .int .i64 o.f7.f0, .slice A13 o.f7.f1.length c13] 47)) base ob oR g gb gr b r) := h.below ((Below.refl _ _).alloc (Nat.le_refl _) _)
  have HUA : Hid (Upd (both ob oR) w (both ob oR) (w.alloc (.cells #[.int .i64 o.f0, .int .i64 o.f1, .int .i64 o.f2, .int .i64 o.f3, .string o.f4.f0, .int .i64 o.f4.f1.f0, .int .i64 o.f4.f1.f1, .string o.f4.f1.f2, .slice A8 o.f4.f1.f3.length c8, .slice A9 o.f4.f2.length c9, .slice A10 o.f5.length c10, .slice A11 o.f6.length c11, .int .i64 o.f7.f0, .slice A13 o.f7.f1.length c13] 47))) := Upd.of_below ((Below.refl _ _).alloc (Nat.le_refl _) _) (fun _ _ => rfl)
  have HU0 : Hid (Upd (both ob oR) (w.alloc (.cells #[.int .i64 o.f0, .int .i64 o.f1, .int .i64 o.f2, .int .i64 o.f3, .string o.f4.f0, .int .i64 o.f4.f1.f0, .int .i64 o.f4.f1.f1, .string o.f4.f1.f2, .slice A8 o.f4.f1.f3.length c8, .slice A9 o.f4.f2.length c9, .slice A10 o.f5.length c10, .slice A11 o.f6.length c11, .int .i64 o.f7.f0, .slice A13 o.f7.f1.length c13] 47)) (both ob oR) (w.alloc (.cells #[.int .i64 o.f0, .int .i64 o.f1, .int .i64 o.f2, .int .i64 o.f3, .string o.f4.f0, .int .i64 o.f4.f1.f0, .int .i64 o.f4.f1.f1, .string o.f4.f1.f2, .slice A8 o.f4.f1.f3.length c8, .slice A9 o.f4.f2.length c9, .slice A10 o.f5.length c10, .slice A11 o.f6.length c11, .int .i64 o.f7.f0, .slice A13 o.f7.f1.length c13] 47))) := Upd.refl _ _
  have HX0 : Hid (((w.alloc (.cells #[.int .i64 o.f0, .int .i64 o.f1, .int .i64 o.f2, .int .i64 o.f3, .string o.f4.f0, .int .i64 o.f4.f1.f0, .int .i64 o.f4.f1.f1, .string o.f4.f1.f2, .slice A8 o.f4.f1.f3.length c8, .slice A9 o.f4.f2.length c9, .slice A10 o.f5.length c10, .slice A11 o.f6.length c11, .int .i64 o.f7.f0, .slice A13 o.f7.f1.length c13] 47))).heap[w.heap.size]? = some (.cells #[.int .i64 o.f0, .int .i64 o.f1, .int .i64 o.f2, .int .i64 o.f3, .string o.f4.f0, .int .i64 o.f4.f1.f0, .int .i64 o.f4.f1.f1, .string o.f4.f1.f2, .slice A8 o.f4.f1.f3.length c8, .slice A9 o.f4.f2.length c9, .slice A10 o.f5.length c10, .slice A11 o.f6.length c11, .int .i64 o.f7.f0, .slice A13 o.f7.f1.length c13] 47 (0, 0))) := blk_new w _
  have HFR : Hid (both ob oR w.heap.size = 0) := h.free (Nat.le_refl _)
  have hgl : g < w.heap.size := blk_lt h.hg
  have p0 : w.cell? ⟨g, 0, none⟩ = some (.pointer (some ⟨gb, 0, none⟩)) := blk_at h.hg 0 rfl
  have p1 : w.cell? ⟨g, 1, none⟩ = some (.pointer (some ⟨gr, 0, none⟩)) := blk_at h.hg 1 rfl
  clear h hR hm hn hlo hbn hF hT hN a8 l8 a9 l9 a10 l10 a11 l11 a13 l13 hpo hu
  have k1' : (o.f0 == 1) = false := beq_false_of_ne (by omega)
  have k2' : (o.f0 == 2) = true := by simp [hk]
  clear hk
  go_enter Try.func28, Try.ntmps28
  go_wp2
  refine start_ (n := 20) (S := (fun w' => w'.cell? ⟨g, 1, none⟩ = some (.pointer (some ⟨gr, 0, none⟩)) ∧ w'.cell? ⟨w.heap.size, 2, none⟩ = some (.int .i64 o.f2) ∧ w'.cell? ⟨w.heap.size, 3, none⟩ = some (.int .i64 o.f3) ∧ w'.cell? ⟨w.heap.size, 10, none⟩ = some (.slice A10 o.f5.length c10) ∧ w'.cell? ⟨w.heap.size, 11, none⟩ = some (.slice A11 o.f6.length c11) ∧ w'.cell? ⟨w.heap.size, 12, none⟩ = some (.int .i64 o.f7.f0) ∧ w'.cell? ⟨w.heap.size, 13, none⟩ = some (.slice A13 o.f7.f1.length c13))) (ds := [14]) #[false, false, false, false, false, false, false, false, false, false, false, false, false, false, false, false, false, false, false, false] (by kernel_rfl) rfl rfl ⟨blk_at HP0.out.hg 1 rfl, blk_at HX0.out 2 rfl, blk_at HX0.out 3 rfl, blk_at HX0.out 10 rfl, blk_at HX0.out 11 rfl, blk_at HX0.out 12 rfl, blk_at HX0.out 13 rfl⟩ (fun hHeld => ?_)
  have HPW : Hid (PairAt (w.alloc (.cells #[.int .i64 o.f0, .int .i64 o.f1, .int .i64 o.f2, .int .i64 o.f3, .string o.f4.f0, .int .i64 o.f4.f1.f0, .int .i64 o.f4.f1.f1, .string o.f4.f1.f2, .slice A8 o.f4.f1.f3.length c8, .slice A9 o.f4.f2.length c9, .slice A10 o.f5.length c10, .slice A11 o.f6.length c11, .int .i64 o.f7.f0, .slice A13 o.f7.f1.length c13] 47)).drew base ob oR g gb gr b r) := HP0.out.below (Below.refl _ _).drew
  have HXW : Hid ((w.alloc (.cells #[.int .i64 o.f0, .int .i64 o.f1, .int .i64 o.f2, .int .i64 o.f3, .string o.f4.f0, .int .i64 o.f4.f1.f0, .int .i64 o.f4.f1.f1, .string o.f4.f1.f2, .slice A8 o.f4.f1.f3.length c8, .slice A9 o.f4.f2.length c9, .slice A10 o.f5.length c10, .slice A11 o.f6.length c11, .int .i64 o.f7.f0, .slice A13 o.f7.f1.length c13] 47)).drew.heap[w.heap.size]? = some (.cells #[.int .i64 o.f0, .int .i64 o.f1, .int .i64 o.f2, .int .i64 o.f3, .string o.f4.f0, .int .i64 o.f4.f1.f0, .int .i64 o.f4.f1.f1, .string o.f4.f1.f2, .slice A8 o.f4.f1.f3.length c8, .slice A9 o.f4.f2.length c9, .slice A10 o.f5.length c10, .slice A11 o.f6.length c11, .int .i64 o.f7.f0, .slice A13 o.f7.f1.length c13] 47 (0, 0))) := HX0.out
  have HUW : Hid (Upd (both ob oR) (w.alloc (.cells #[.int .i64 o.f0, .int .i64 o.f1, .int .i64 o.f2, .int .i64 o.f3, .string o.f4.f0, .int .i64 o.f4.f1.f0, .int .i64 o.f4.f1.f1, .string o.f4.f1.f2, .slice A8 o.f4.f1.f3.length c8, .slice A9 o.f4.f2.length c9, .slice A10 o.f5.length c10, .slice A11 o.f6.length c11, .int .i64 o.f7.f0, .slice A13 o.f7.f1.length c13] 47)) (both ob oR) (w.alloc (.cells #[.int .i64 o.f0, .int .i64 o.f1, .int .i64 o.f2, .int .i64 o.f3, .string o.f4.f0, .int .i64 o.f4.f1.f0, .int .i64 o.f4.f1.f1, .string o.f4.f1.f2, .slice A8 o.f4.f1.f3.length c8, .slice A9 o.f4.f2.length c9, .slice A10 o.f5.length c10, .slice A11 o.f6.length c11, .int .i64 o.f7.f0, .slice A13 o.f7.f1.length c13] 47)).drew) := HU0.out.trans (Upd.of_below (Below.refl _ _).drew (fun _ _ => rfl))
  clear HP0 HX0 HU0
  generalize (w.alloc (.cells #[.int .i64 o.f0, .int .i64 o.f1, .int .i64 o.f2, .int .i64 o.f3, .string o.f4.f0, .int .i64 o.f4.f1.f0, .int .i64 o.f4.f1.f1, .string o.f4.f1.f2, .slice A8 o.f4.f1.f3.length c8, .slice A9 o.f4.f2.length c9, .slice A10 o.f5.length c10, .slice A11 o.f6.length c11, .int .i64 o.f7.f0, .slice A13 o.f7.f1.length c13] 47)).drew = WW at hHeld HPW HXW HUW ⊢
  obtain ⟨Ar, cr, hr0⟩ := HPW.out.hr
  have HT50 := Lib.hid (mark50 hr0 HPW.out.bs o.f2 o.f3 o.f5 A10 c10 (HA10.out.upd (HUA.out.trans HUW.out)).r HL10.out (by have := HU.out.2.2.1; omega) o.f7 A13 c13 (HA13.out.upd (HUA.out.trans HUW.out)).r HL13.out (by have := HU.out.2.1; omega) o.f6 A11 c11 (HA11.out.upd (HUA.out.trans HUW.out)).r HL11.out (by have := HU.out.2.2.2; omega) (RSz.of HT.out (by have := HNN.out; omega)).len)
  clear hr0
  refine pure_ (i := 0) (N := some 47) (v := ?_) (a' := ?_) #[true, false, false, false, false, false, false, false, false, false, false, false, false, false, false, false, false, false, false, false] rfl rfl (by kernel_rfl) (fun _ _ _ h => h) (Or.inl ⟨by rfl, ?_⟩) ?_ ?_
  rotate_left
  · intro w'
    go_simp
    with_reducible rfl
  rotate_left
  · simp only [Act.put, List.setIfInBounds_toArray, List.set_cons_zero, List.set_cons_succ]
    rfl
  refine pure_ (i := 1) (N := some 48) (v := ?_) (a' := ?_) #[true, true, false, false, false, false, false, false, false, false, false, false, false, false, false, false, false, false, false, false] rfl rfl (by kernel_rfl) (fun _ _ _ h => h) (Or.inl ⟨by rfl, ?_⟩) ?_ ?_
  rotate_left
  · intro w'
    go_simp
    with_reducible rfl
  rotate_left
  · simp only [Act.put, List.setIfInBounds_toArray, List.set_cons_zero, List.set_cons_succ]
    rfl
  refine pure_ (i := 2) (N := some 49) (v := ?_) (a' := ?_) #[true, true, true, false, false, false, false, false, false, false, false, false, false, false, false, false, false, false, false, false] rfl rfl (by kernel_rfl) (fun _ _ _ h => h) (Or.inl ⟨by rfl, ?_⟩) ?_ ?_
  rotate_left
  · intro w'
    go_simp
    with_reducible rfl
  rotate_left
  · simp only [Act.put, List.setIfInBounds_toArray, List.set_cons_zero, List.set_cons_succ]
    rfl
  refine take_ (i := 3) (N := some 50) (v := ?_) (a' := ?_) #[true, true, true, true, false, false, false, false, false, false, false, false, false, false, false, false, false, false, false, false] rfl rfl (by kernel_rfl) (fun _ _ _ h => h) (Or.inl ⟨by rfl, ?_⟩) hHeld ?_ ?_
  rotate_left
  · rintro w' ⟨s0, s1, s2, s3, s4, s5, s6⟩
    go_simp
    with_reducible rfl
  rotate_left
  · simp only [Act.put, List.setIfInBounds_toArray, List.set_cons_zero, List.set_cons_succ]
    rfl
  refine pure_ (i := 4) (N := some 51) (v := ?_) (a' := ?_) #[true, true, true, true, true, false, false, false, false, false, false, false, false, false, false, false, false, false, false, false] rfl rfl (by kernel_rfl) (fun _ _ _ h => h) (Or.inl ⟨by rfl, ?_⟩) ?_ ?_
  rotate_left
  · intro w'
    go_simp
    with_reducible rfl
  rotate_left
  · simp only [Act.put, List.setIfInBounds_toArray, List.set_cons_zero, List.set_cons_succ]
    rfl
  refine take_ (i := 5) (N := some 52) (v := ?_) (a' := ?_) #[true, true, true, true, true, true, false, false, false, false, false, false, false, false, false, false, false, false, false, false] rfl rfl (by kernel_rfl) (fun _ _ _ h => h) (Or.inl ⟨by rfl, ?_⟩) hHeld ?_ ?_
  rotate_left
  · rintro w' ⟨s0, s1, s2, s3, s4, s5, s6⟩
    go_simp
    with_reducible rfl
  rotate_left
  · simp only [Act.put, List.setIfInBounds_toArray, List.set_cons_zero, List.set_cons_succ]
    rfl
  refine pure_ (i := 6) (N := some 53) (v := ?_) (a' := ?_) #[true, true, true, true, true, true, true, false, false, false, false, false, false, false, false, false, false, false, false, false] rfl rfl (by kernel_rfl) (fun _ _ _ h => h) (Or.inl ⟨by rfl, ?_⟩) ?_ ?_
  rotate_left
  · intro w'
    go_simp
    with_reducible rfl
  rotate_left
  · simp only [Act.put, List.setIfInBounds_toArray, List.set_cons_zero, List.set_cons_succ]
    rfl
  refine take_ (i := 7) (N := some 54) (v := ?_) (a' := ?_) #[true, true, true, true, true, true, true, true, false, false, false, false, false, false, false, false, false, false, false, false] rfl rfl (by kernel_rfl) (fun _ _ _ h => h) (Or.inl ⟨by rfl, ?_⟩) hHeld ?_ ?_
  rotate_left
  · rintro w' ⟨s0, s1, s2, s3, s4, s5, s6⟩
    go_simp
    with_reducible rfl
  rotate_left
  · simp only [Act.put, List.setIfInBounds_toArray, List.set_cons_zero, List.set_cons_succ]
    rfl
  refine pure_ (i := 8) (N := some 55) (v := ?_) (a' := ?_) #[true, true, true, true, true, true, true, true, true, false, false, false, false, false, false, false, false, false, false, false] rfl rfl (by kernel_rfl) (fun _ _ _ h => h) (Or.inl ⟨by rfl, ?_⟩) ?_ ?_
  rotate_left
  · intro w'
    go_simp
    with_reducible rfl
  rotate_left
  · simp only [Act.put, List.setIfInBounds_toArray, List.set_cons_zero, List.set_cons_succ]
    rfl
  refine take_ (i := 9) (N := some 56) (v := ?_) (a' := ?_) #[true, true, true, true, true, true, true, true, true, true, false, false, false, false, false, false, false, false, false, false] rfl rfl (by kernel_rfl) (fun _ _ _ h => h) (Or.inl ⟨by rfl, ?_⟩) hHeld ?_ ?_
  rotate_left
  · rintro w' ⟨s0, s1, s2, s3, s4, s5, s6⟩
    go_simp
    with_reducible rfl
  rotate_left
  · simp only [Act.put, List.setIfInBounds_toArray, List.set_cons_zero, List.set_cons_succ]
    rfl
  refine pure_ (i := 10) (N := some 57) (v := ?_) (a' := ?_) #[true, true, true, true, true, true, true, true, true, true, true, false, false, false, false, false, false, false, false, false] rfl rfl (by kernel_rfl) (fun _ _ _ h => h) (Or.inl ⟨by rfl, ?_⟩) ?_ ?_
  rotate_left
  · intro w'
    go_simp
    with_reducible rfl
  rotate_left
  · simp only [Act.put, List.setIfInBounds_toArray, List.set_cons_zero, List.set_cons_succ]
    rfl
  refine take_ (i := 11) (N := some 58) (v := ?_) (a' := ?_) #[true, true, true, true, true, true, true, true, true, true, true, true, false, false, false, false, false, false, false, false] rfl rfl (by kernel_rfl) (fun _ _ _ h => h) (Or.inl ⟨by rfl, ?_⟩) hHeld ?_ ?_
  rotate_left
  · rintro w' ⟨s0, s1, s2, s3, s4, s5, s6⟩
    go_simp
    with_reducible rfl
  rotate_left
  · simp only [Act.put, List.setIfInBounds_toArray, List.set_cons_zero, List.set_cons_succ]
    rfl
  refine pure_ (i := 12) (N := some 59) (v := ?_) (a' := ?_) #[true, true, true, true, true, true, true, true, true, true, true, true, true, false, false, false, false, false, false, false] rfl rfl (by kernel_rfl) (fun _ _ _ h => h) (Or.inl ⟨by rfl, ?_⟩) ?_ ?_
  rotate_left
  · intro w'
    go_simp
    with_reducible rfl
  rotate_left
  · simp only [Act.put, List.setIfInBounds_toArray, List.set_cons_zero, List.set_cons_succ]
    rfl
  refine take_ (i := 13) (N := some 60) (v := ?_) (a' := ?_) #[true, true, true, true, true, true, true, true, true, true, true, true, true, true, false, false, false, false, false, false] rfl rfl (by kernel_rfl) (fun _ _ _ h => h) (Or.inl ⟨by rfl, ?_⟩) hHeld ?_ ?_
  rotate_left
  · rintro w' ⟨s0, s1, s2, s3, s4, s5, s6⟩
    go_simp
    with_reducible rfl
  rotate_left
  · simp only [Act.put, List.setIfInBounds_toArray, List.set_cons_zero, List.set_cons_succ]
    rfl
  refine last_ (i := 14) (N := some 61) #[true, true, true, true, true, true, true, true, true, true, true, true, true, true, true, false, false, false, false, false] rfl rfl (by kernel_rfl) (by decide) (fun K hK => ?_)
  refine goes_ Try.func50 (by kernel_rfl) rfl #[.pointer (some ⟨gr, 0, none⟩), .int .i64 o.f2, .int .i64 o.f3, .slice A10 o.f5.length c10, .agg #[.int .i64 o.f7.f0, .slice A13 o.f7.f1.length c13], .slice A11 o.f6.length c11] (by rfl) rfl rfl (by simp only [List.map_toArray, List.map_cons, List.map_nil]; rfl) ?_
  refine (HT50.out).mono ?_
  rintro e w1 ⟨he, hp⟩
  rw [HMC.out, HME.out] at he
  subst he
  refine ⟨_, rfl, ?_⟩
  refine hK.out _ _ ?_
  clear hK K HT50
  obtain ⟨oR1, hp1, hu1⟩ := HPW.out.stepR hp
  have HP1 := Lib.hid hp1
  have HU1 : Hid (Upd (both ob oR) (w.alloc (.cells #[.int .i64 o.f0, .int .i64 o.f1, .int .i64 o.f2, .int .i64 o.f3, .string o.f4.f0, .int .i64 o.f4.f1.f0, .int .i64 o.f4.f1.f1, .string o.f4.f1.f2, .slice A8 o.f4.f1.f3.length c8, .slice A9 o.f4.f2.length c9, .slice A10 o.f5.length c10, .slice A11 o.f6.length c11, .int .i64 o.f7.f0, .slice A13 o.f7.f1.length c13] 47)) (both ob oR1) w1) := HUW.out.trans hu1
  have HX1 : Hid (w1.heap[w.heap.size]? = some (.cells #[.int .i64 o.f0, .int .i64 o.f1, .int .i64 o.f2, .int .i64 o.f3, .string o.f4.f0, .int .i64 o.f4.f1.f0, .int .i64 o.f4.f1.f1, .string o.f4.f1.f2, .slice A8 o.f4.f1.f3.length c8, .slice A9 o.f4.f2.length c9, .slice A10 o.f5.length c10, .slice A11 o.f6.length c11, .int .i64 o.f7.f0, .slice A13 o.f7.f1.length c13] 47 (0, 0))) := (hu1.block _ (blk_lt HXW.out) (HUW.out.same _ (by simp only [World.size_alloc]; omega) HFR.out)).trans HXW.out
  clear hp1 hu1
  refine norm_ (a' := ?_) ?_ ?_
  rotate_left
  · show Act.put _ (some 61) _ = _
    simp only [Act.put, List.setIfInBounds_toArray, List.set_cons_zero, List.set_cons_succ]
    rfl
  refine pure_ (i := 15) (N := some 46) (v := ?_) (a' := ?_) #[true, true, true, true, true, true, true, true, true, true, true, true, true, true, true, true, false, false, false, false] rfl rfl (by kernel_rfl) (fun _ _ _ h => h) (Or.inl ⟨by rfl, ?_⟩) ?_ ?_
  rotate_left
  · intro w'
    go_simp
    with_reducible rfl
  rotate_left
  · simp only [Act.put, List.setIfInBounds_toArray, List.set_cons_zero, List.set_cons_succ]
    rfl
  refine pure_ (i := 16) (N := some 62) (v := ?_) (a' := ?_) #[true, true, true, true, true, true, true, true, true, true, true, true, true, true, true, true, true, false, false, false] rfl rfl (by kernel_rfl) (fun _ _ _ h => h) (Or.inl ⟨by rfl, ?_⟩) ?_ ?_
  rotate_left
  · intro w'
    go_simp
    with_reducible rfl
  rotate_left
  · simp only [Act.put, List.setIfInBounds_toArray, List.set_cons_zero, List.set_cons_succ]
    rfl
  refine pure_ (i := 17) (N := some 63) (v := ?_) (a' := ?_) #[true, true, true, true, true, true, true, true, true, true, true, true, true, true, true, true, true, true, false, false] rfl rfl (by kernel_rfl) (fun _ _ _ h => h) (Or.inl ⟨by rfl, ?_⟩) ?_ ?_
  rotate_left
  · intro w'
    go_simp
    with_reducible rfl
  rotate_left
  · simp only [Act.put, List.setIfInBounds_toArray, List.set_cons_zero, List.set_cons_succ]
    rfl
  refine pure_ (i := 18) (N := some 7) (v := ?_) (a' := ?_) #[true, true, true, true, true, true, true, true, true, true, true, true, true, true, true, true, true, true, true, false] rfl rfl (by kernel_rfl) (fun _ _ _ h => h) (Or.inl ⟨by rfl, ?_⟩) ?_ ?_
  rotate_left
  · intro w'
    go_simp
    with_reducible rfl
  rotate_left
  · simp only [Act.put, List.setIfInBounds_toArray, List.set_cons_zero, List.set_cons_succ]
    rfl
  refine pure_ (i := 19) (N := some 8) (v := ?_) (a' := ?_) #[true, true, true, true, true, true, true, true, true, true, true, true, true, true, true, true, true, true, true, true] rfl rfl (by kernel_rfl) (fun _ _ _ h => h) (Or.inl ⟨by rfl, ?_⟩) ?_ ?_
  rotate_left
  · intro w'
    go_simp
    with_reducible rfl
  rotate_left
  · simp only [Act.put, List.setIfInBounds_toArray, List.set_cons_zero, List.set_cons_succ]
    rfl
  refine done_ (by kernel_rfl) ?_
  go_wp2
  refine start_ (n := 23) (S := (fun w' => w'.cell? ⟨g, 0, none⟩ = some (.pointer (some ⟨gb, 0, none⟩)) ∧ w'.cell? ⟨w.heap.size, 2, none⟩ = some (.int .i64 o.f2) ∧ w'.cell? ⟨w.heap.size, 3, none⟩ = some (.int .i64 o.f3) ∧ w'.cell? ⟨w.heap.size, 10, none⟩ = some (.slice A10 o.f5.length c10) ∧ w'.cell? ⟨w.heap.size, 11, none⟩ = some (.slice A11 o.f6.length c11) ∧ w'.cell? ⟨w.heap.size, 12, none⟩ = some (.int .i64 o.f7.f0) ∧ w'.cell? ⟨w.heap.size, 13, none⟩ = some (.slice A13 o.f7.f1.length c13))) (ds := [17]) #[false, false, false, false, false, false, false, false, false, false, false, false, false, false, false, false, false, false, false, false, false, false, false] (by kernel_rfl) rfl rfl ⟨blk_at HP1.out.hg 0 rfl, blk_at HX1.out 2 rfl, blk_at HX1.out 3 rfl, blk_at HX1.out 10 rfl, blk_at HX1.out 11 rfl, blk_at HX1.out 12 rfl, blk_at HX1.out 13 rfl⟩ (fun hHeld => ?_)
  have HPW : Hid (PairAt w1.drew base ob oR1 g gb gr b (r.mark o.f2 o.f3 o.f5 o.f7 o.f6)) := HP1.out.below (Below.refl _ _).drew
  have HXW : Hid (w1.drew.heap[w.heap.size]? = some (.cells #[.int .i64 o.f0, .int .i64 o.f1, .int .i64 o.f2, .int .i64 o.f3, .string o.f4.f0, .int .i64 o.f4.f1.f0, .int .i64 o.f4.f1.f1, .string o.f4.f1.f2, .slice A8 o.f4.f1.f3.length c8, .slice A9 o.f4.f2.length c9, .slice A10 o.f5.length c10, .slice A11 o.f6.length c11, .int .i64 o.f7.f0, .slice A13 o.f7.f1.length c13] 47 (0, 0))) := HX1.out
  have HUW : Hid (Upd (both ob oR) (w.alloc (.cells #[.int .i64 o.f0, .int .i64 o.f1, .int .i64 o.f2, .int .i64 o.f3, .string o.f4.f0, .int .i64 o.f4.f1.f0, .int .i64 o.f4.f1.f1, .string o.f4.f1.f2, .slice A8 o.f4.f1.f3.length c8, .slice A9 o.f4.f2.length c9, .slice A10 o.f5.length c10, .slice A11 o.f6.length c11, .int .i64 o.f7.f0, .slice A13 o.f7.f1.length c13] 47)) (both ob oR1) w1.drew) := HU1.out.trans (Upd.of_below (Below.refl _ _).drew (fun _ _ => rfl))
  clear HP1 HX1 HU1
  generalize w1.drew = WW at hHeld HPW HXW HUW ⊢
  have HC1 := Lib.hid (copyRecords44 o.f5 A10 c10 WW (HA10.out.now' (HUA.out.trans HUW.out)) HL10.out (by have := HU.out.2.2.1; omega))
  refine pure_ (i := 0) (N := some 65) (v := ?_) (a' := ?_) #[true, false, false, false, false, false, false, false, false, false, false, false, false, false, false, false, false, false, false, false, false, false, false] rfl rfl (by kernel_rfl) (fun _ _ _ h => h) (Or.inl ⟨by rfl, ?_⟩) ?_ ?_
  rotate_left
  · intro w'
    go_simp
    with_reducible rfl
  rotate_left
  · simp only [Act.put, List.setIfInBounds_toArray, List.set_cons_zero, List.set_cons_succ]
    rfl
  refine pure_ (i := 1) (N := some 66) (v := ?_) (a' := ?_) #[true, true, false, false, false, false, false, false, false, false, false, false, false, false, false, false, false, false, false, false, false, false, false] rfl rfl (by kernel_rfl) (fun _ _ _ h => h) (Or.inl ⟨by rfl, ?_⟩) ?_ ?_
  rotate_left
  · intro w'
    go_simp
    with_reducible rfl
  rotate_left
  · simp only [Act.put, List.setIfInBounds_toArray, List.set_cons_zero, List.set_cons_succ]
    rfl
  refine pure_ (i := 2) (N := some 67) (v := ?_) (a' := ?_) #[true, true, true, false, false, false, false, false, false, false, false, false, false, false, false, false, false, false, false, false, false, false, false] rfl rfl (by kernel_rfl) (fun _ _ _ h => h) (Or.inl ⟨by rfl, ?_⟩) ?_ ?_
  rotate_left
  · intro w'
    go_simp
    with_reducible rfl
  rotate_left
  · simp only [Act.put, List.setIfInBounds_toArray, List.set_cons_zero, List.set_cons_succ]
    rfl
  refine take_ (i := 3) (N := some 68) (v := ?_) (a' := ?_) #[true, true, true, true, false, false, false, false, false, false, false, false, false, false, false, false, false, false, false, false, false, false, false] rfl rfl (by kernel_rfl) (fun _ _ _ h => h) (Or.inl ⟨by rfl, ?_⟩) hHeld ?_ ?_
  rotate_left
  · rintro w' ⟨s0, s1, s2, s3, s4, s5, s6⟩
    go_simp
    with_reducible rfl
  rotate_left
  · simp only [Act.put, List.setIfInBounds_toArray, List.set_cons_zero, List.set_cons_succ]
    rfl
  refine pure_ (i := 4) (N := some 69) (v := ?_) (a' := ?_) #[true, true, true, true, true, false, false, false, false, false, false, false, false, false, false, false, false, false, false, false, false, false, false] rfl rfl (by kernel_rfl) (fun _ _ _ h => h) (Or.inl ⟨by rfl, ?_⟩) ?_ ?_
  rotate_left
  · intro w'
    go_simp
    with_reducible rfl
  rotate_left
  · simp only [Act.put, List.setIfInBounds_toArray, List.set_cons_zero, List.set_cons_succ]
    rfl
  refine take_ (i := 5) (N := some 70) (v := ?_) (a' := ?_) #[true, true, true, true, true, true, false, false, false, false, false, false, false, false, false, false, false, false, false, false, false, false, false] rfl rfl (by kernel_rfl) (fun _ _ _ h => h) (Or.inl ⟨by rfl, ?_⟩) hHeld ?_ ?_
  rotate_left
  · rintro w' ⟨s0, s1, s2, s3, s4, s5, s6⟩
    go_simp
    with_reducible rfl
  rotate_left
  · simp only [Act.put, List.setIfInBounds_toArray, List.set_cons_zero, List.set_cons_succ]
    rfl
  refine pure_ (i := 6) (N := some 71) (v := ?_) (a' := ?_) #[true, true, true, true, true, true, true, false, false, false, false, false, false, false, false, false, false, false, false, false, false, false, false] rfl rfl (by kernel_rfl) (fun _ _ _ h => h) (Or.inl ⟨by rfl, ?_⟩) ?_ ?_
  rotate_left
  · intro w'
    go_simp
    with_reducible rfl
  rotate_left
  · simp only [Act.put, List.setIfInBounds_toArray, List.set_cons_zero, List.set_cons_succ]
    rfl
  refine take_ (i := 7) (N := some 72) (v := ?_) (a' := ?_) #[true, true, true, true, true, true, true, true, false, false, false, false, false, false, false, false, false, false, false, false, false, false, false] rfl rfl (by kernel_rfl) (fun _ _ _ h => h) (Or.inl ⟨by rfl, ?_⟩) hHeld ?_ ?_
  rotate_left
  · rintro w' ⟨s0, s1, s2, s3, s4, s5, s6⟩
    go_simp
    with_reducible rfl
  rotate_left
  · simp only [Act.put, List.setIfInBounds_toArray, List.set_cons_zero, List.set_cons_succ]
    rfl
  refine pure_ (i := 8) (N := some 73) (v := ?_) (a' := ?_) #[true, true, true, true, true, true, true, true, true, false, false, false, false, false, false, false, false, false, false, false, false, false, false] rfl rfl (by kernel_rfl) (fun _ _ _ h => h) (Or.inl ⟨by rfl, ?_⟩) ?_ ?_
  rotate_left
  · intro w'
    go_simp
    with_reducible rfl
  rotate_left
  · simp only [Act.put, List.setIfInBounds_toArray, List.set_cons_zero, List.set_cons_succ]
    rfl
  refine take_ (i := 9) (N := some 74) (v := ?_) (a' := ?_) #[true, true, true, true, true, true, true, true, true, true, false, false, false, false, false, false, false, false, false, false, false, false, false] rfl rfl (by kernel_rfl) (fun _ _ _ h => h) (Or.inl ⟨by rfl, ?_⟩) hHeld ?_ ?_
  rotate_left
  · rintro w' ⟨s0, s1, s2, s3, s4, s5, s6⟩
    go_simp
    with_reducible rfl
  rotate_left
  · simp only [Act.put, List.setIfInBounds_toArray, List.set_cons_zero, List.set_cons_succ]
    rfl
  refine pure_ (i := 11) (N := some 76) (v := ?_) (a' := ?_) #[true, true, true, true, true, true, true, true, true, true, false, true, false, false, false, false, false, false, false, false, false, false, false] rfl rfl (by kernel_rfl) (fun _ _ _ h => h) (Or.inl ⟨by rfl, ?_⟩) ?_ ?_
  rotate_left
  · intro w'
    go_simp
    with_reducible rfl
  rotate_left
  · simp only [Act.put, List.setIfInBounds_toArray, List.set_cons_zero, List.set_cons_succ]
    rfl
  refine take_ (i := 12) (N := some 77) (v := ?_) (a' := ?_) #[true, true, true, true, true, true, true, true, true, true, false, true, true, false, false, false, false, false, false, false, false, false, false] rfl rfl (by kernel_rfl) (fun _ _ _ h => h) (Or.inl ⟨by rfl, ?_⟩) hHeld ?_ ?_
  rotate_left
  · rintro w' ⟨s0, s1, s2, s3, s4, s5, s6⟩
    go_simp
    with_reducible rfl
  rotate_left
  · simp only [Act.put, List.setIfInBounds_toArray, List.set_cons_zero, List.set_cons_succ]
    rfl
  refine pure_ (i := 14) (N := some 79) (v := ?_) (a' := ?_) #[true, true, true, true, true, true, true, true, true, true, false, true, true, false, true, false, false, false, false, false, false, false, false] rfl rfl (by kernel_rfl) (fun _ _ _ h => h) (Or.inl ⟨by rfl, ?_⟩) ?_ ?_
  rotate_left
  · intro w'
    go_simp
    with_reducible rfl
  rotate_left
  · simp only [Act.put, List.setIfInBounds_toArray, List.set_cons_zero, List.set_cons_succ]
    rfl
  refine take_ (i := 15) (N := some 80) (v := ?_) (a' := ?_) #[true, true, true, true, true, true, true, true, true, true, false, true, true, false, true, true, false, false, false, false, false, false, false] rfl rfl (by kernel_rfl) (fun _ _ _ h => h) (Or.inl ⟨by rfl, ?_⟩) hHeld ?_ ?_
  rotate_left
  · rintro w' ⟨s0, s1, s2, s3, s4, s5, s6⟩
    go_simp
    with_reducible rfl
  rotate_left
  · simp only [Act.put, List.setIfInBounds_toArray, List.set_cons_zero, List.set_cons_succ]
    rfl
  refine one_ (i := 10) (N := some 75) #[true, true, true, true, true, true, true, true, true, true, true, true, true, false, true, true, false, false, false, false, false, false, false] rfl rfl (by kernel_rfl) (by decide) (fun K hK => ?_)
  refine goes_ Try.func44 (by kernel_rfl) rfl #[.slice A10 o.f5.length c10] (by rfl) rfl rfl (by simp only [List.map_toArray, List.map_cons, List.map_nil]; rfl) ?_
  refine (HC1.out).mono ?_
  rintro e w2 ⟨u1, rfl, hu1, hbw2⟩
  refine ⟨_, rfl, ?_⟩
  obtain ⟨Bu1, du1, rfl⟩ := Kd.R_slice hu1.out
  have HC2 := Lib.hid (copyState43 o.f7 A13 c13 w2 (HA13.out.now' (HUA.out.trans (HUW.out.trans (Upd.of_below hbw2.out (fun _ _ => rfl))))) HL13.out (by have := HU.out.2.1; omega))
  refine hK.out _ _ ⟨pw_cell_below hbw2.out hHeld.1, pw_cell_below hbw2.out hHeld.2.1, pw_cell_below hbw2.out hHeld.2.2.1, pw_cell_below hbw2.out hHeld.2.2.2.1, pw_cell_below hbw2.out hHeld.2.2.2.2.1, pw_cell_below hbw2.out hHeld.2.2.2.2.2.1, pw_cell_below hbw2.out hHeld.2.2.2.2.2.2⟩ (fun hHeld => ?_)
  clear hK K
  refine norm_ (a' := ?_) ?_ ?_
  rotate_left
  · show Act.put _ (some 75) _ = _
    simp only [Act.put, List.setIfInBounds_toArray, List.set_cons_zero, List.set_cons_succ]
    rfl
  refine one_ (i := 13) (N := some 78) #[true, true, true, true, true, true, true, true, true, true, true, true, true, true, true, true, false, false, false, false, false, false, false] rfl rfl (by kernel_rfl) (by decide) (fun K hK => ?_)
  refine goes_ Try.func43 (by kernel_rfl) rfl #[.agg #[.int .i64 o.f7.f0, .slice A13 o.f7.f1.length c13]] (by rfl) rfl rfl (by simp only [List.map_toArray, List.map_cons, List.map_nil]; rfl) ?_
  refine (HC2.out).mono ?_
  rintro e w3 ⟨u2, rfl, hu2, hbw3⟩
  refine ⟨_, rfl, ?_⟩
  obtain ⟨Bu2, du2, rfl⟩ := Kd.R_slice hu2.out
  have HC3 := Lib.hid (copyRecords44 o.f6 A11 c11 w3 (HA11.out.now' (HUA.out.trans (HUW.out.trans (Upd.of_below (hbw2.out.trans (hbw3.out.mono hbw2.out.size)) (fun _ _ => rfl))))) HL11.out (by have := HU.out.2.2.2; omega))
  refine hK.out _ _ ⟨pw_cell_below hbw3.out hHeld.1, pw_cell_below hbw3.out hHeld.2.1, pw_cell_below hbw3.out hHeld.2.2.1, pw_cell_below hbw3.out hHeld.2.2.2.1, pw_cell_below hbw3.out hHeld.2.2.2.2.1, pw_cell_below hbw3.out hHeld.2.2.2.2.2.1, pw_cell_below hbw3.out hHeld.2.2.2.2.2.2⟩ (fun hHeld => ?_)
  clear hK K
  refine norm_ (a' := ?_) ?_ ?_
  rotate_left
  · show Act.put _ (some 78) _ = _
    simp only [Act.put, List.setIfInBounds_toArray, List.set_cons_zero, List.set_cons_succ]
    rfl
  refine one_ (i := 16) (N := some 81) #[true, true, true, true, true, true, true, true, true, true, true, true, true, true, true, true, true, false, false, false, false, false, false] rfl rfl (by kernel_rfl) (by decide) (fun K hK => ?_)
  refine goes_ Try.func44 (by kernel_rfl) rfl #[.slice A11 o.f6.length c11] (by rfl) rfl rfl (by simp only [List.map_toArray, List.map_cons, List.map_nil]; rfl) ?_
  refine (HC3.out).mono ?_
  rintro e w4 ⟨u3, rfl, hu3, hbw4⟩
  refine ⟨_, rfl, ?_⟩
  obtain ⟨Bu3, du3, rfl⟩ := Kd.R_slice hu3.out
  have hball : Hid (Below WW.heap.size WW w4) := hbw2.out.trans ((hbw3.out.trans (hbw4.out.mono hbw3.out.size)).mono hbw2.out.size)
  have HPV : Hid (PairAt w4 base ob oR1 g gb gr b (r.mark o.f2 o.f3 o.f5 o.f7 o.f6)) := HPW.out.below hball.out
  have HUV : Hid (Upd (both ob oR) (w.alloc (.cells #[.int .i64 o.f0, .int .i64 o.f1, .int .i64 o.f2, .int .i64 o.f3, .string o.f4.f0, .int .i64 o.f4.f1.f0, .int .i64 o.f4.f1.f1, .string o.f4.f1.f2, .slice A8 o.f4.f1.f3.length c8, .slice A9 o.f4.f2.length c9, .slice A10 o.f5.length c10, .slice A11 o.f6.length c11, .int .i64 o.f7.f0, .slice A13 o.f7.f1.length c13] 47)) (both ob oR1) w4) := HUW.out.trans (Upd.of_below hball.out (fun _ _ => rfl))
  have HFW : Hid (∀ k, WW.heap.size ≤ k → ob k = 0) := fun k hk => by have := HPW.out.free hk; unfold both at this; omega
  obtain ⟨gp, gl, vc, vd, lv, hbk⟩ := HPV.out.hb
  have HR1 : Hid (Kd.R k45 45 w4 WW.heap.size (fun _ => True) (.slice Bu1 o.f5.length du1) o.f5) := Kd.R_below (Kd.R_below hu1.out hbw3.out) hbw4.out
  have HR2 : Hid (Kd.R k104 104 w4 WW.heap.size (fun _ => True) (.slice Bu2 o.f7.f1.length du2) o.f7.f1) := Kd.R_below (Kd.R_lower hu2.out hbw2.out.size) hbw4.out
  have HR3 : Hid (Kd.R k45 45 w4 WW.heap.size (fun _ => True) (.slice Bu3 o.f6.length du3) o.f6) := Kd.R_lower hu3.out (Nat.le_trans hbw2.out.size hbw3.out.size)
  have HT20 := Lib.hid (mark20 hbk HPV.out.bs o.f2 o.f3 o.f5 Bu1 du1 (Away.of_made HR1.out HFW.out) (Kd.R_reads' HR1.out).2.1 (by have := HU.out.2.2.1; omega) o.f7 Bu2 du2 (Away.of_made HR2.out HFW.out) (Kd.R_reads' HR2.out).2.1 (by have := HU.out.2.1; omega) o.f6 Bu3 du3 (Away.of_made HR3.out HFW.out) (Kd.R_reads' HR3.out).2.1 (by have := HU.out.2.2.2; omega) (fun i => by have := HF.out.l i; have := HNN.out; have := partsRs_len o.f5; have := HU.out.2.2.1; omega) (by rw [HF.out.m]; exact HM.out))
  clear hbk
  refine hK.out _ _ ⟨pw_cell_below hbw4.out hHeld.1, pw_cell_below hbw4.out hHeld.2.1, pw_cell_below hbw4.out hHeld.2.2.1, pw_cell_below hbw4.out hHeld.2.2.2.1, pw_cell_below hbw4.out hHeld.2.2.2.2.1, pw_cell_below hbw4.out hHeld.2.2.2.2.2.1, pw_cell_below hbw4.out hHeld.2.2.2.2.2.2⟩ (fun hHeld => ?_)
  clear hK K
  refine norm_ (a' := ?_) ?_ ?_
  rotate_left
  · show Act.put _ (some 81) _ = _
    simp only [Act.put, List.setIfInBounds_toArray, List.set_cons_zero, List.set_cons_succ]
    rfl
  refine last_ (i := 17) (N := some 82) #[true, true, true, true, true, true, true, true, true, true, true, true, true, true, true, true, true, true, false, false, false, false, false] rfl rfl (by kernel_rfl) (by decide) (fun K hK => ?_)
  refine goes_ Try.func20 (by kernel_rfl) rfl #[.pointer (some ⟨gb, 0, none⟩), .int .i64 o.f2, .int .i64 o.f3, .slice Bu1 o.f5.length du1, .agg #[.int .i64 o.f7.f0, .slice Bu2 o.f7.f1.length du2], .slice Bu3 o.f6.length du3] (by rfl) rfl rfl (by simp only [List.map_toArray, List.map_cons, List.map_nil]; rfl) ?_
  refine (HT20.out).mono ?_
  rintro e w5 ⟨rfl, hp⟩
  refine ⟨_, rfl, ?_⟩
  refine hK.out _ _ ?_
  clear hK K HT20 HC1 HC2 HC3 HR1 HR2 HR3 HPW HUW hHeld
  obtain ⟨oB2, HP2, hu2⟩ := HPV.out.stepB hp
  have HU2 : Hid (Upd (both ob oR) (w.alloc (.cells #[.int .i64 o.f0, .int .i64 o.f1, .int .i64 o.f2, .int .i64 o.f3, .string o.f4.f0, .int .i64 o.f4.f1.f0, .int .i64 o.f4.f1.f1, .string o.f4.f1.f2, .slice A8 o.f4.f1.f3.length c8, .slice A9 o.f4.f2.length c9, .slice A10 o.f5.length c10, .slice A11 o.f6.length c11, .int .i64 o.f7.f0, .slice A13 o.f7.f1.length c13] 47)) (both oB2 oR1) w5) := HUV.out.trans hu2
  have HP2' := Lib.hid HP2
  clear HP2 hu2 hp
  refine norm_ (a' := ?_) ?_ ?_
  rotate_left
  · show Act.put _ (some 82) _ = _
    simp only [Act.put, List.setIfInBounds_toArray, List.set_cons_zero, List.set_cons_succ]
    rfl
  refine pure_ (i := 18) (N := some 64) (v := ?_) (a' := ?_) #[true, true, true, true, true, true, true, true, true, true, true, true, true, true, true, true, true, true, true, false, false, false, false] rfl rfl (by kernel_rfl) (fun _ _ _ h => h) (Or.inl ⟨by rfl, ?_⟩) ?_ ?_
  rotate_left
  · intro w'
    go_simp
    with_reducible rfl
  rotate_left
  · simp only [Act.put, List.setIfInBounds_toArray, List.set_cons_zero, List.set_cons_succ]
    rfl
  refine pure_ (i := 19) (N := some 83) (v := ?_) (a' := ?_) #[true, true, true, true, true, true, true, true, true, true, true, true, true, true, true, true, true, true, true, true, false, false, false] rfl rfl (by kernel_rfl) (fun _ _ _ h => h) (Or.inl ⟨by rfl, ?_⟩) ?_ ?_
  rotate_left
  · intro w'
    go_simp
    with_reducible rfl
  rotate_left
  · simp only [Act.put, List.setIfInBounds_toArray, List.set_cons_zero, List.set_cons_succ]
    rfl
  refine pure_ (i := 20) (N := some 84) (v := ?_) (a' := ?_) #[true, true, true, true, true, true, true, true, true, true, true, true, true, true, true, true, true, true, true, true, true, false, false] rfl rfl (by kernel_rfl) (fun _ _ _ h => h) (Or.inl ⟨by rfl, ?_⟩) ?_ ?_
  rotate_left
  · intro w'
    go_simp
    with_reducible rfl
  rotate_left
  · simp only [Act.put, List.setIfInBounds_toArray, List.set_cons_zero, List.set_cons_succ]
    rfl
  refine pure_ (i := 21) (N := some 9) (v := ?_) (a' := ?_) #[true, true, true, true, true, true, true, true, true, true, true, true, true, true, true, true, true, true, true, true, true, true, false] rfl rfl (by kernel_rfl) (fun _ _ _ h => h) (Or.inl ⟨by rfl, ?_⟩) ?_ ?_
  rotate_left
  · intro w'
    go_simp
    with_reducible rfl
  rotate_left
  · simp only [Act.put, List.setIfInBounds_toArray, List.set_cons_zero, List.set_cons_succ]
    rfl
  refine pure_ (i := 22) (N := some 10) (v := ?_) (a' := ?_) #[true, true, true, true, true, true, true, true, true, true, true, true, true, true, true, true, true, true, true, true, true, true, true] rfl rfl (by kernel_rfl) (fun _ _ _ h => h) (Or.inl ⟨by rfl, ?_⟩) ?_ ?_
  rotate_left
  · intro w'
    go_simp
    with_reducible rfl
  rotate_left
  · simp only [Act.put, List.setIfInBounds_toArray, List.set_cons_zero, List.set_cons_succ]
    rfl
  refine done_ (by kernel_rfl) ?_
  generalize b.markE o.f2 o.f3 = z at *
  generalize b.markC o.f2 o.f3 o.f5 o.f7 o.f6 = zc at *
  have hzz : (zc == zc) = true := beq_self_eq_true _
  go_wp2_with (first
    | (go_at_call 15; refine (num15 _ _).mono ?_; rintro e w' ⟨rfl, rfl⟩))
  go_ret
  refine ⟨by first | rfl | exact congrArg (fun t => Ending.returned (Value.bool t)) (beq_self_eq_true z), _, _, _, _, HP2'.out, HUA.out.trans HU2.out, (HR.out.markOk HN.out HLO.out HBN.out _ _ _ _ _).1, (HF.out.mark _ _ _ _ _).mono ?_, ?_⟩
  · have := partsRs_len o.f5
    unfold partsO; omega
  · have h1 := partsTs_mark r o.f2 o.f3 o.f5 o.f7 o.f6
    have h2 := HT.out
    unfold partsO partsR
    omega

set_option maxRecDepth 100000 in
set_option maxHeartbeats 4000000 in
theorem plays28_held (h : PairAt w base ob oR g gb gr b r) (hR : Rel b r mode back n) (hm : mode = 1 ∨ mode = 2 ∨ mode = 3) (hn : 1 ≤ n) (hlo : -1 ≤ back) (hbn : ¬ (back = 0 ∧ n = 1)) (hF : Fit b mode back n NN) (hT : partsTs r.list ≤ NN) (hN : NN ≤ 50000) (o : S47) (A8 : Option Addr) (c8 : Nat) (A9 : Option Addr) (c9 : Nat) (A10 : Option Addr) (c10 : Nat) (A11 : Option Addr) (c11 : Nat) (A13 : Option Addr) (c13 : Nat) (a8 : Away k42 (both ob oR) w A8 o.f4.f1.f3) (l8 : o.f4.f1.f3.length ≤ c8) (a9 : Away (Kd.int .i64) (both ob oR) w A9 o.f4.f2) (l9 : o.f4.f2.length ≤ c9) (a10 : Away k45 (both ob oR) w A10 o.f5) (l10 : o.f5.length ≤ c10) (a11 : Away k45 (both ob oR) w A11 o.f6) (l11 : o.f6.length ≤ c11) (a13 : Away k104 (both ob oR) w A13 o.f7.f1) (l13 : o.f7.f1.length ≤ c13) (hpo : partsO o ≤ 20000) (hk : o.f0 = 4) : Calls Try.prog 28 #[.pointer (some ⟨g, 0, none⟩), .agg #[.int .i64 o.f0, .int .i64 o.f1, .int .i64 o.f2, .int .i64 o.f3, .string o.f4.f0, .int .i64 o.f4.f1.f0, .int .i64 o.f4.f1.f1, .string o.f4.f1.f2, .slice A8 o.f4.f1.f3.length c8, .slice A9 o.f4.f2.length c9, .slice A10 o.f5.length c10, .slice A11 o.f6.length c11, .int .i64 o.f7.f0, .slice A13 o.f7.f1.length c13]] w fun e w' => PlayPost base ob oR g gb gr mode back n (NN + partsO o) w e w' := by
  have HEQ : Hid (r.held o.f2 = b.held o.f2) := hR.held o.f2
  have HP := Lib.hid h
  have HR := Lib.hid hR
  have HM := Lib.hid hm
  have HN := Lib.hid hn
  have HLO := Lib.hid hlo
  have HBN := Lib.hid hbn
  have HF := Lib.hid hF
  have HT := Lib.hid hT
  have HNN := Lib.hid hN
  have HA8 := Lib.hid a8
  have HA9 := Lib.hid a9
  have HA10 := Lib.hid a10
  have HA11 := Lib.hid a11
  have HA13 := Lib.hid a13
  have HL8 := Lib.hid l8
  have HL9 := Lib.hid l9
  have HL10 := Lib.hid l10
  have HL11 := Lib.hid l11
  have HL13 := Lib.hid l13
  have HPO := Lib.hid hpo
  have hu : partsR o.f4 ≤ 20000 ∧ partsC o.f7.f1 ≤ 20000 ∧ partsRs o.f5 ≤ 20000 ∧ partsRs o.f6 ≤ 20000 := by unfold partsO at hpo; omega
  have HU := Lib.hid hu
  have HP0 : Hid (PairAt (w.alloc (.cells #[.int .i64 o.f0, .int .i64 o.f1, .int .i64 o.f2, .int .i64 o.f3, .string o.f4.f0, .int .i64 o.f4.f1.f0, .int .i64 o.f4.f1.f1, .string o.f4.f1.f2, .slice A8 o.f4.f1.f3.length c8, .slice A9 o.f4.f2.length c9, .slice A10 o.f5.length c10, .slice A11 o.f6.length c11, .int .i64 o.f7.f0, .slice A13 o.f7.f1.length c13] 47)) base ob oR g gb gr b r) := h.below ((Below.refl _ _).alloc (Nat.le_refl _) _)
  have HUA : Hid (Upd (both ob oR) w (both ob oR) (w.alloc (.cells #[.int .i64 o.f0, .int .i64 o.f1, .int .i64 o.f2, .int .i64 o.f3, .string o.f4.f0, .int .i64 o.f4.f1.f0, .int .i64 o.f4.f1.f1, .string o.f4.f1.f2, .slice A8 o.f4.f1.f3.length c8, .slice A9 o.f4.f2.length c9, .slice A10 o.f5.length c10, .slice A11 o.f6.length c11, .int .i64 o.f7.f0, .slice A13 o.f7.f1.length c13] 47))) := Upd.of_below ((Below.refl _ _).alloc (Nat.le_refl _) _) (fun _ _ => rfl)
  have HU0 : Hid (Upd (both ob oR) (w.alloc (.cells #[.int .i64 o.f0, .int .i64 o.f1, .int .i64 o.f2, .int .i64 o.f3, .string o.f4.f0, .int .i64 o.f4.f1.f0, .int .i64 o.f4.f1.f1, .string o.f4.f1.f2, .slice A8 o.f4.f1.f3.length c8, .slice A9 o.f4.f2.length c9, .slice A10 o.f5.length c10, .slice A11 o.f6.length c11, .int .i64 o.f7.f0, .slice A13 o.f7.f1.length c13] 47)) (both ob oR) (w.alloc (.cells #[.int .i64 o.f0, .int .i64 o.f1, .int .i64 o.f2, .int .i64 o.f3, .string o.f4.f0, .int .i64 o.f4.f1.f0, .int .i64 o.f4.f1.f1, .string o.f4.f1.f2, .slice A8 o.f4.f1.f3.length c8, .slice A9 o.f4.f2.length c9, .slice A10 o.f5.length c10, .slice A11 o.f6.length c11, .int .i64 o.f7.f0, .slice A13 o.f7.f1.length c13] 47))) := Upd.refl _ _
  have HX0 : Hid (((w.alloc (.cells #[.int .i64 o.f0, .int .i64 o.f1, .int .i64 o.f2, .int .i64 o.f3, .string o.f4.f0, .int .i64 o.f4.f1.f0, .int .i64 o.f4.f1.f1, .string o.f4.f1.f2, .slice A8 o.f4.f1.f3.length c8, .slice A9 o.f4.f2.length c9, .slice A10 o.f5.length c10, .slice A11 o.f6.length c11, .int .i64 o.f7.f0, .slice A13 o.f7.f1.length c13] 47))).heap[w.heap.size]? = some (.cells #[.int .i64 o.f0, .int .i64 o.f1, .int .i64 o.f2, .int .i64 o.f3, .string o.f4.f0, .int .i64 o.f4.f1.f0, .int .i64 o.f4.f1.f1, .string o.f4.f1.f2, .slice A8 o.f4.f1.f3.length c8, .slice A9 o.f4.f2.length c9, .slice A10 o.f5.length c10, .slice A11 o.f6.length c11, .int .i64 o.f7.f0, .slice A13 o.f7.f1.length c13] 47 (0, 0))) := blk_new w _
  have HFR : Hid (both ob oR w.heap.size = 0) := h.free (Nat.le_refl _)
  have hgl : g < w.heap.size := blk_lt h.hg
  have p0 : w.cell? ⟨g, 0, none⟩ = some (.pointer (some ⟨gb, 0, none⟩)) := blk_at h.hg 0 rfl
  have p1 : w.cell? ⟨g, 1, none⟩ = some (.pointer (some ⟨gr, 0, none⟩)) := blk_at h.hg 1 rfl
  clear h hR hm hn hlo hbn hF hT hN a8 l8 a9 l9 a10 l10 a11 l11 a13 l13 hpo hu
  have k1' : (o.f0 == 1) = false := beq_false_of_ne (by omega)
  have k2' : (o.f0 == 2) = false := beq_false_of_ne (by omega)
  have k3' : (o.f0 == 3) = false := beq_false_of_ne (by omega)
  have k4' : (o.f0 == 4) = true := by simp [hk]
  clear hk
  go_enter Try.func28, Try.ntmps28
  go_wp2
  refine start_ (n := 16) (S := (fun w' => w'.cell? ⟨g, 0, none⟩ = some (.pointer (some ⟨gb, 0, none⟩)) ∧ w'.cell? ⟨g, 1, none⟩ = some (.pointer (some ⟨gr, 0, none⟩)) ∧ w'.cell? ⟨w.heap.size, 2, none⟩ = some (.int .i64 o.f2))) (ds := [13]) #[false, false, false, false, false, false, false, false, false, false, false, false, false, false, false, false] (by kernel_rfl) rfl rfl ⟨blk_at HP0.out.hg 0 rfl, blk_at HP0.out.hg 1 rfl, blk_at HX0.out 2 rfl⟩ (fun hHeld => ?_)
  have HPW : Hid (PairAt (w.alloc (.cells #[.int .i64 o.f0, .int .i64 o.f1, .int .i64 o.f2, .int .i64 o.f3, .string o.f4.f0, .int .i64 o.f4.f1.f0, .int .i64 o.f4.f1.f1, .string o.f4.f1.f2, .slice A8 o.f4.f1.f3.length c8, .slice A9 o.f4.f2.length c9, .slice A10 o.f5.length c10, .slice A11 o.f6.length c11, .int .i64 o.f7.f0, .slice A13 o.f7.f1.length c13] 47)).drew base ob oR g gb gr b r) := HP0.out.below (Below.refl _ _).drew
  have HXW : Hid ((w.alloc (.cells #[.int .i64 o.f0, .int .i64 o.f1, .int .i64 o.f2, .int .i64 o.f3, .string o.f4.f0, .int .i64 o.f4.f1.f0, .int .i64 o.f4.f1.f1, .string o.f4.f1.f2, .slice A8 o.f4.f1.f3.length c8, .slice A9 o.f4.f2.length c9, .slice A10 o.f5.length c10, .slice A11 o.f6.length c11, .int .i64 o.f7.f0, .slice A13 o.f7.f1.length c13] 47)).drew.heap[w.heap.size]? = some (.cells #[.int .i64 o.f0, .int .i64 o.f1, .int .i64 o.f2, .int .i64 o.f3, .string o.f4.f0, .int .i64 o.f4.f1.f0, .int .i64 o.f4.f1.f1, .string o.f4.f1.f2, .slice A8 o.f4.f1.f3.length c8, .slice A9 o.f4.f2.length c9, .slice A10 o.f5.length c10, .slice A11 o.f6.length c11, .int .i64 o.f7.f0, .slice A13 o.f7.f1.length c13] 47 (0, 0))) := HX0.out
  have HUW : Hid (Upd (both ob oR) (w.alloc (.cells #[.int .i64 o.f0, .int .i64 o.f1, .int .i64 o.f2, .int .i64 o.f3, .string o.f4.f0, .int .i64 o.f4.f1.f0, .int .i64 o.f4.f1.f1, .string o.f4.f1.f2, .slice A8 o.f4.f1.f3.length c8, .slice A9 o.f4.f2.length c9, .slice A10 o.f5.length c10, .slice A11 o.f6.length c11, .int .i64 o.f7.f0, .slice A13 o.f7.f1.length c13] 47)) (both ob oR) (w.alloc (.cells #[.int .i64 o.f0, .int .i64 o.f1, .int .i64 o.f2, .int .i64 o.f3, .string o.f4.f0, .int .i64 o.f4.f1.f0, .int .i64 o.f4.f1.f1, .string o.f4.f1.f2, .slice A8 o.f4.f1.f3.length c8, .slice A9 o.f4.f2.length c9, .slice A10 o.f5.length c10, .slice A11 o.f6.length c11, .int .i64 o.f7.f0, .slice A13 o.f7.f1.length c13] 47)).drew) := HU0.out.trans (Upd.of_below (Below.refl _ _).drew (fun _ _ => rfl))
  clear HP0 HX0 HU0
  generalize (w.alloc (.cells #[.int .i64 o.f0, .int .i64 o.f1, .int .i64 o.f2, .int .i64 o.f3, .string o.f4.f0, .int .i64 o.f4.f1.f0, .int .i64 o.f4.f1.f1, .string o.f4.f1.f2, .slice A8 o.f4.f1.f3.length c8, .slice A9 o.f4.f2.length c9, .slice A10 o.f5.length c10, .slice A11 o.f6.length c11, .int .i64 o.f7.f0, .slice A13 o.f7.f1.length c13] 47)).drew = WW at hHeld HPW HXW HUW ⊢
  obtain ⟨Ar, cr, hr0⟩ := HPW.out.hr
  obtain ⟨gp, gl, vc, vd, lv, hbk⟩ := HPW.out.hb
  have HT1 := Lib.hid (held29 hbk o.f2)
  have HT2 := Lib.hid (held53 hr0 o.f2)
  clear hr0 hbk
  refine pure_ (i := 0) (N := some 129) (v := ?_) (a' := ?_) #[true, false, false, false, false, false, false, false, false, false, false, false, false, false, false, false] rfl rfl (by kernel_rfl) (fun _ _ _ h => h) (Or.inl ⟨by rfl, ?_⟩) ?_ ?_
  rotate_left
  · intro w'
    go_simp
    with_reducible rfl
  rotate_left
  · simp only [Act.put, List.setIfInBounds_toArray, List.set_cons_zero, List.set_cons_succ]
    rfl
  refine pure_ (i := 1) (N := some 130) (v := ?_) (a' := ?_) #[true, true, false, false, false, false, false, false, false, false, false, false, false, false, false, false] rfl rfl (by kernel_rfl) (fun _ _ _ h => h) (Or.inl ⟨by rfl, ?_⟩) ?_ ?_
  rotate_left
  · intro w'
    go_simp
    with_reducible rfl
  rotate_left
  · simp only [Act.put, List.setIfInBounds_toArray, List.set_cons_zero, List.set_cons_succ]
    rfl
  refine pure_ (i := 2) (N := some 131) (v := ?_) (a' := ?_) #[true, true, true, false, false, false, false, false, false, false, false, false, false, false, false, false] rfl rfl (by kernel_rfl) (fun _ _ _ h => h) (Or.inl ⟨by rfl, ?_⟩) ?_ ?_
  rotate_left
  · intro w'
    go_simp
    with_reducible rfl
  rotate_left
  · simp only [Act.put, List.setIfInBounds_toArray, List.set_cons_zero, List.set_cons_succ]
    rfl
  refine take_ (i := 3) (N := some 132) (v := ?_) (a' := ?_) #[true, true, true, true, false, false, false, false, false, false, false, false, false, false, false, false] rfl rfl (by kernel_rfl) (fun _ _ _ h => h) (Or.inl ⟨by rfl, ?_⟩) hHeld ?_ ?_
  rotate_left
  · rintro w' ⟨s0, s1, s2⟩
    go_simp
    with_reducible rfl
  rotate_left
  · simp only [Act.put, List.setIfInBounds_toArray, List.set_cons_zero, List.set_cons_succ]
    rfl
  refine pure_ (i := 4) (N := some 133) (v := ?_) (a' := ?_) #[true, true, true, true, true, false, false, false, false, false, false, false, false, false, false, false] rfl rfl (by kernel_rfl) (fun _ _ _ h => h) (Or.inl ⟨by rfl, ?_⟩) ?_ ?_
  rotate_left
  · intro w'
    go_simp
    with_reducible rfl
  rotate_left
  · simp only [Act.put, List.setIfInBounds_toArray, List.set_cons_zero, List.set_cons_succ]
    rfl
  refine take_ (i := 5) (N := some 134) (v := ?_) (a' := ?_) #[true, true, true, true, true, true, false, false, false, false, false, false, false, false, false, false] rfl rfl (by kernel_rfl) (fun _ _ _ h => h) (Or.inl ⟨by rfl, ?_⟩) hHeld ?_ ?_
  rotate_left
  · rintro w' ⟨s0, s1, s2⟩
    go_simp
    with_reducible rfl
  rotate_left
  · simp only [Act.put, List.setIfInBounds_toArray, List.set_cons_zero, List.set_cons_succ]
    rfl
  refine pure_ (i := 7) (N := some 136) (v := ?_) (a' := ?_) #[true, true, true, true, true, true, false, true, false, false, false, false, false, false, false, false] rfl rfl (by kernel_rfl) (fun _ _ _ h => h) (Or.inl ⟨by rfl, ?_⟩) ?_ ?_
  rotate_left
  · intro w'
    go_simp
    with_reducible rfl
  rotate_left
  · simp only [Act.put, List.setIfInBounds_toArray, List.set_cons_zero, List.set_cons_succ]
    rfl
  refine pure_ (i := 8) (N := some 137) (v := ?_) (a' := ?_) #[true, true, true, true, true, true, false, true, true, false, false, false, false, false, false, false] rfl rfl (by kernel_rfl) (fun _ _ _ h => h) (Or.inl ⟨by rfl, ?_⟩) ?_ ?_
  rotate_left
  · intro w'
    go_simp
    with_reducible rfl
  rotate_left
  · simp only [Act.put, List.setIfInBounds_toArray, List.set_cons_zero, List.set_cons_succ]
    rfl
  refine pure_ (i := 9) (N := some 138) (v := ?_) (a' := ?_) #[true, true, true, true, true, true, false, true, true, true, false, false, false, false, false, false] rfl rfl (by kernel_rfl) (fun _ _ _ h => h) (Or.inl ⟨by rfl, ?_⟩) ?_ ?_
  rotate_left
  · intro w'
    go_simp
    with_reducible rfl
  rotate_left
  · simp only [Act.put, List.setIfInBounds_toArray, List.set_cons_zero, List.set_cons_succ]
    rfl
  refine take_ (i := 10) (N := some 139) (v := ?_) (a' := ?_) #[true, true, true, true, true, true, false, true, true, true, true, false, false, false, false, false] rfl rfl (by kernel_rfl) (fun _ _ _ h => h) (Or.inl ⟨by rfl, ?_⟩) hHeld ?_ ?_
  rotate_left
  · rintro w' ⟨s0, s1, s2⟩
    go_simp
    with_reducible rfl
  rotate_left
  · simp only [Act.put, List.setIfInBounds_toArray, List.set_cons_zero, List.set_cons_succ]
    rfl
  refine pure_ (i := 11) (N := some 140) (v := ?_) (a' := ?_) #[true, true, true, true, true, true, false, true, true, true, true, true, false, false, false, false] rfl rfl (by kernel_rfl) (fun _ _ _ h => h) (Or.inl ⟨by rfl, ?_⟩) ?_ ?_
  rotate_left
  · intro w'
    go_simp
    with_reducible rfl
  rotate_left
  · simp only [Act.put, List.setIfInBounds_toArray, List.set_cons_zero, List.set_cons_succ]
    rfl
  refine take_ (i := 12) (N := some 141) (v := ?_) (a' := ?_) #[true, true, true, true, true, true, false, true, true, true, true, true, true, false, false, false] rfl rfl (by kernel_rfl) (fun _ _ _ h => h) (Or.inl ⟨by rfl, ?_⟩) hHeld ?_ ?_
  rotate_left
  · rintro w' ⟨s0, s1, s2⟩
    go_simp
    with_reducible rfl
  rotate_left
  · simp only [Act.put, List.setIfInBounds_toArray, List.set_cons_zero, List.set_cons_succ]
    rfl
  refine one_ (i := 6) (N := some 135) #[true, true, true, true, true, true, true, true, true, true, true, true, true, false, false, false] rfl rfl (by kernel_rfl) (by decide) (fun K hK => ?_)
  refine goes_ Try.func29 (by kernel_rfl) rfl #[.pointer (some ⟨gb, 0, none⟩), .int .i64 o.f2] (by rfl) rfl rfl (by simp only [List.map_toArray, List.map_cons, List.map_nil]; rfl) ?_
  refine (HT1.out).mono ?_
  rintro e w' ⟨rfl, rfl⟩
  refine ⟨_, rfl, ?_⟩
  refine hK.out _ _ hHeld (fun hHeld => ?_)
  clear hK K
  refine norm_ (a' := ?_) ?_ ?_
  rotate_left
  · show Act.put _ (some 135) _ = _
    simp only [Act.put, List.setIfInBounds_toArray, List.set_cons_zero, List.set_cons_succ]
    rfl
  refine last_ (i := 13) (N := some 142) #[true, true, true, true, true, true, true, true, true, true, true, true, true, true, false, false] rfl rfl (by kernel_rfl) (by decide) (fun K hK => ?_)
  refine goes_ Try.func53 (by kernel_rfl) rfl #[.pointer (some ⟨gr, 0, none⟩), .int .i64 o.f2] (by rfl) rfl rfl (by simp only [List.map_toArray, List.map_cons, List.map_nil]; rfl) ?_
  refine (HT2.out).mono ?_
  rintro e w2 ⟨he, hb2⟩
  rw [HEQ.out] at he
  subst he
  refine ⟨_, rfl, ?_⟩
  refine hK.out _ _ ?_
  clear hK K
  refine norm_ (a' := ?_) ?_ ?_
  rotate_left
  · show Act.put _ (some 142) _ = _
    simp only [Act.put, List.setIfInBounds_toArray, List.set_cons_zero, List.set_cons_succ]
    rfl
  refine pure_ (i := 14) (N := some 143) (v := ?_) (a' := ?_) #[true, true, true, true, true, true, true, true, true, true, true, true, true, true, true, false] rfl rfl (by kernel_rfl) (fun _ _ _ h => h) (Or.inl ⟨by rfl, ?_⟩) ?_ ?_
  rotate_left
  · intro w'
    go_simp
    with_reducible rfl
  rotate_left
  · simp only [Act.put, List.setIfInBounds_toArray, List.set_cons_zero, List.set_cons_succ]
    rfl
  refine pure_ (i := 15) (N := some 4) (v := ?_) (a' := ?_) #[true, true, true, true, true, true, true, true, true, true, true, true, true, true, true, true] rfl rfl (by kernel_rfl) (fun _ _ _ h => h) (Or.inl ⟨by rfl, ?_⟩) ?_ ?_
  rotate_left
  · intro w'
    go_simp
    with_reducible rfl
  rotate_left
  · simp only [Act.put, List.setIfInBounds_toArray, List.set_cons_zero, List.set_cons_succ]
    rfl
  refine done_ (by kernel_rfl) ?_
  generalize b.held o.f2 = z at *
  go_wp2
  go_ret
  exact ⟨by first | rfl | exact congrArg (fun t => Ending.returned (Value.bool t)) (beq_self_eq_true z), _, _, _, _, HPW.out.below hb2.out, HUA.out.trans (HUW.out.trans (Upd.of_below hb2.out (fun _ _ => rfl))), HR.out, HF.out.mono (by omega), Nat.le_trans HT.out (by omega)⟩

set_option maxRecDepth 100000 in
set_option maxHeartbeats 4000000 in
theorem plays28_now (h : PairAt w base ob oR g gb gr b r) (hR : Rel b r mode back n) (hm : mode = 1 ∨ mode = 2 ∨ mode = 3) (hn : 1 ≤ n) (hlo : -1 ≤ back) (hbn : ¬ (back = 0 ∧ n = 1)) (hF : Fit b mode back n NN) (hT : partsTs r.list ≤ NN) (hN : NN ≤ 50000) (o : S47) (A8 : Option Addr) (c8 : Nat) (A9 : Option Addr) (c9 : Nat) (A10 : Option Addr) (c10 : Nat) (A11 : Option Addr) (c11 : Nat) (A13 : Option Addr) (c13 : Nat) (a8 : Away k42 (both ob oR) w A8 o.f4.f1.f3) (l8 : o.f4.f1.f3.length ≤ c8) (a9 : Away (Kd.int .i64) (both ob oR) w A9 o.f4.f2) (l9 : o.f4.f2.length ≤ c9) (a10 : Away k45 (both ob oR) w A10 o.f5) (l10 : o.f5.length ≤ c10) (a11 : Away k45 (both ob oR) w A11 o.f6) (l11 : o.f6.length ≤ c11) (a13 : Away k104 (both ob oR) w A13 o.f7.f1) (l13 : o.f7.f1.length ≤ c13) (hpo : partsO o ≤ 20000) (hk : o.f0 = 5) : Calls Try.prog 28 #[.pointer (some ⟨g, 0, none⟩), .agg #[.int .i64 o.f0, .int .i64 o.f1, .int .i64 o.f2, .int .i64 o.f3, .string o.f4.f0, .int .i64 o.f4.f1.f0, .int .i64 o.f4.f1.f1, .string o.f4.f1.f2, .slice A8 o.f4.f1.f3.length c8, .slice A9 o.f4.f2.length c9, .slice A10 o.f5.length c10, .slice A11 o.f6.length c11, .int .i64 o.f7.f0, .slice A13 o.f7.f1.length c13]] w fun e w' => PlayPost base ob oR g gb gr mode back n (NN + partsO o) w e w' := by
  have HEQ : Hid (r.last = b.now) := hR.1.now
  have HP := Lib.hid h
  have HR := Lib.hid hR
  have HM := Lib.hid hm
  have HN := Lib.hid hn
  have HLO := Lib.hid hlo
  have HBN := Lib.hid hbn
  have HF := Lib.hid hF
  have HT := Lib.hid hT
  have HNN := Lib.hid hN
  have HA8 := Lib.hid a8
  have HA9 := Lib.hid a9
  have HA10 := Lib.hid a10
  have HA11 := Lib.hid a11
  have HA13 := Lib.hid a13
  have HL8 := Lib.hid l8
  have HL9 := Lib.hid l9
  have HL10 := Lib.hid l10
  have HL11 := Lib.hid l11
  have HL13 := Lib.hid l13
  have HPO := Lib.hid hpo
  have hu : partsR o.f4 ≤ 20000 ∧ partsC o.f7.f1 ≤ 20000 ∧ partsRs o.f5 ≤ 20000 ∧ partsRs o.f6 ≤ 20000 := by unfold partsO at hpo; omega
  have HU := Lib.hid hu
  have HP0 : Hid (PairAt (w.alloc (.cells #[.int .i64 o.f0, .int .i64 o.f1, .int .i64 o.f2, .int .i64 o.f3, .string o.f4.f0, .int .i64 o.f4.f1.f0, .int .i64 o.f4.f1.f1, .string o.f4.f1.f2, .slice A8 o.f4.f1.f3.length c8, .slice A9 o.f4.f2.length c9, .slice A10 o.f5.length c10, .slice A11 o.f6.length c11, .int .i64 o.f7.f0, .slice A13 o.f7.f1.length c13] 47)) base ob oR g gb gr b r) := h.below ((Below.refl _ _).alloc (Nat.le_refl _) _)
  have HUA : Hid (Upd (both ob oR) w (both ob oR) (w.alloc (.cells #[.int .i64 o.f0, .int .i64 o.f1, .int .i64 o.f2, .int .i64 o.f3, .string o.f4.f0, .int .i64 o.f4.f1.f0, .int .i64 o.f4.f1.f1, .string o.f4.f1.f2, .slice A8 o.f4.f1.f3.length c8, .slice A9 o.f4.f2.length c9, .slice A10 o.f5.length c10, .slice A11 o.f6.length c11, .int .i64 o.f7.f0, .slice A13 o.f7.f1.length c13] 47))) := Upd.of_below ((Below.refl _ _).alloc (Nat.le_refl _) _) (fun _ _ => rfl)
  have HU0 : Hid (Upd (both ob oR) (w.alloc (.cells #[.int .i64 o.f0, .int .i64 o.f1, .int .i64 o.f2, .int .i64 o.f3, .string o.f4.f0, .int .i64 o.f4.f1.f0, .int .i64 o.f4.f1.f1, .string o.f4.f1.f2, .slice A8 o.f4.f1.f3.length c8, .slice A9 o.f4.f2.length c9, .slice A10 o.f5.length c10, .slice A11 o.f6.length c11, .int .i64 o.f7.f0, .slice A13 o.f7.f1.length c13] 47)) (both ob oR) (w.alloc (.cells #[.int .i64 o.f0, .int .i64 o.f1, .int .i64 o.f2, .int .i64 o.f3, .string o.f4.f0, .int .i64 o.f4.f1.f0, .int .i64 o.f4.f1.f1, .string o.f4.f1.f2, .slice A8 o.f4.f1.f3.length c8, .slice A9 o.f4.f2.length c9, .slice A10 o.f5.length c10, .slice A11 o.f6.length c11, .int .i64 o.f7.f0, .slice A13 o.f7.f1.length c13] 47))) := Upd.refl _ _
  have HX0 : Hid (((w.alloc (.cells #[.int .i64 o.f0, .int .i64 o.f1, .int .i64 o.f2, .int .i64 o.f3, .string o.f4.f0, .int .i64 o.f4.f1.f0, .int .i64 o.f4.f1.f1, .string o.f4.f1.f2, .slice A8 o.f4.f1.f3.length c8, .slice A9 o.f4.f2.length c9, .slice A10 o.f5.length c10, .slice A11 o.f6.length c11, .int .i64 o.f7.f0, .slice A13 o.f7.f1.length c13] 47))).heap[w.heap.size]? = some (.cells #[.int .i64 o.f0, .int .i64 o.f1, .int .i64 o.f2, .int .i64 o.f3, .string o.f4.f0, .int .i64 o.f4.f1.f0, .int .i64 o.f4.f1.f1, .string o.f4.f1.f2, .slice A8 o.f4.f1.f3.length c8, .slice A9 o.f4.f2.length c9, .slice A10 o.f5.length c10, .slice A11 o.f6.length c11, .int .i64 o.f7.f0, .slice A13 o.f7.f1.length c13] 47 (0, 0))) := blk_new w _
  have HFR : Hid (both ob oR w.heap.size = 0) := h.free (Nat.le_refl _)
  have hgl : g < w.heap.size := blk_lt h.hg
  have p0 : w.cell? ⟨g, 0, none⟩ = some (.pointer (some ⟨gb, 0, none⟩)) := blk_at h.hg 0 rfl
  have p1 : w.cell? ⟨g, 1, none⟩ = some (.pointer (some ⟨gr, 0, none⟩)) := blk_at h.hg 1 rfl
  clear h hR hm hn hlo hbn hF hT hN a8 l8 a9 l9 a10 l10 a11 l11 a13 l13 hpo hu
  have k1' : (o.f0 == 1) = false := beq_false_of_ne (by omega)
  have k2' : (o.f0 == 2) = false := beq_false_of_ne (by omega)
  have k3' : (o.f0 == 3) = false := beq_false_of_ne (by omega)
  have k4' : (o.f0 == 4) = false := beq_false_of_ne (by omega)
  have k5' : (o.f0 == 5) = true := by simp [hk]
  clear hk
  go_enter Try.func28, Try.ntmps28
  go_wp2
  refine start_ (n := 12) (S := (fun w' => w'.cell? ⟨g, 0, none⟩ = some (.pointer (some ⟨gb, 0, none⟩)) ∧ w'.cell? ⟨g, 1, none⟩ = some (.pointer (some ⟨gr, 0, none⟩)))) (ds := [9]) #[false, false, false, false, false, false, false, false, false, false, false, false] (by kernel_rfl) rfl rfl ⟨blk_at HP0.out.hg 0 rfl, blk_at HP0.out.hg 1 rfl⟩ (fun hHeld => ?_)
  have HPW : Hid (PairAt (w.alloc (.cells #[.int .i64 o.f0, .int .i64 o.f1, .int .i64 o.f2, .int .i64 o.f3, .string o.f4.f0, .int .i64 o.f4.f1.f0, .int .i64 o.f4.f1.f1, .string o.f4.f1.f2, .slice A8 o.f4.f1.f3.length c8, .slice A9 o.f4.f2.length c9, .slice A10 o.f5.length c10, .slice A11 o.f6.length c11, .int .i64 o.f7.f0, .slice A13 o.f7.f1.length c13] 47)).drew base ob oR g gb gr b r) := HP0.out.below (Below.refl _ _).drew
  have HXW : Hid ((w.alloc (.cells #[.int .i64 o.f0, .int .i64 o.f1, .int .i64 o.f2, .int .i64 o.f3, .string o.f4.f0, .int .i64 o.f4.f1.f0, .int .i64 o.f4.f1.f1, .string o.f4.f1.f2, .slice A8 o.f4.f1.f3.length c8, .slice A9 o.f4.f2.length c9, .slice A10 o.f5.length c10, .slice A11 o.f6.length c11, .int .i64 o.f7.f0, .slice A13 o.f7.f1.length c13] 47)).drew.heap[w.heap.size]? = some (.cells #[.int .i64 o.f0, .int .i64 o.f1, .int .i64 o.f2, .int .i64 o.f3, .string o.f4.f0, .int .i64 o.f4.f1.f0, .int .i64 o.f4.f1.f1, .string o.f4.f1.f2, .slice A8 o.f4.f1.f3.length c8, .slice A9 o.f4.f2.length c9, .slice A10 o.f5.length c10, .slice A11 o.f6.length c11, .int .i64 o.f7.f0, .slice A13 o.f7.f1.length c13] 47 (0, 0))) := HX0.out
  have HUW : Hid (Upd (both ob oR) (w.alloc (.cells #[.int .i64 o.f0, .int .i64 o.f1, .int .i64 o.f2, .int .i64 o.f3, .string o.f4.f0, .int .i64 o.f4.f1.f0, .int .i64 o.f4.f1.f1, .string o.f4.f1.f2, .slice A8 o.f4.f1.f3.length c8, .slice A9 o.f4.f2.length c9, .slice A10 o.f5.length c10, .slice A11 o.f6.length c11, .int .i64 o.f7.f0, .slice A13 o.f7.f1.length c13] 47)) (both ob oR) (w.alloc (.cells #[.int .i64 o.f0, .int .i64 o.f1, .int .i64 o.f2, .int .i64 o.f3, .string o.f4.f0, .int .i64 o.f4.f1.f0, .int .i64 o.f4.f1.f1, .string o.f4.f1.f2, .slice A8 o.f4.f1.f3.length c8, .slice A9 o.f4.f2.length c9, .slice A10 o.f5.length c10, .slice A11 o.f6.length c11, .int .i64 o.f7.f0, .slice A13 o.f7.f1.length c13] 47)).drew) := HU0.out.trans (Upd.of_below (Below.refl _ _).drew (fun _ _ => rfl))
  clear HP0 HX0 HU0
  generalize (w.alloc (.cells #[.int .i64 o.f0, .int .i64 o.f1, .int .i64 o.f2, .int .i64 o.f3, .string o.f4.f0, .int .i64 o.f4.f1.f0, .int .i64 o.f4.f1.f1, .string o.f4.f1.f2, .slice A8 o.f4.f1.f3.length c8, .slice A9 o.f4.f2.length c9, .slice A10 o.f5.length c10, .slice A11 o.f6.length c11, .int .i64 o.f7.f0, .slice A13 o.f7.f1.length c13] 47)).drew = WW at hHeld HPW HXW HUW ⊢
  obtain ⟨Ar, cr, hr0⟩ := HPW.out.hr
  obtain ⟨gp, gl, vc, vd, lv, hbk⟩ := HPW.out.hb
  have HT1 := Lib.hid (now25 hbk)
  have HT2 := Lib.hid (now32 hr0)
  clear hr0 hbk
  refine pure_ (i := 0) (N := some 146) (v := ?_) (a' := ?_) #[true, false, false, false, false, false, false, false, false, false, false, false] rfl rfl (by kernel_rfl) (fun _ _ _ h => h) (Or.inl ⟨by rfl, ?_⟩) ?_ ?_
  rotate_left
  · intro w'
    go_simp
    with_reducible rfl
  rotate_left
  · simp only [Act.put, List.setIfInBounds_toArray, List.set_cons_zero, List.set_cons_succ]
    rfl
  refine pure_ (i := 1) (N := some 147) (v := ?_) (a' := ?_) #[true, true, false, false, false, false, false, false, false, false, false, false] rfl rfl (by kernel_rfl) (fun _ _ _ h => h) (Or.inl ⟨by rfl, ?_⟩) ?_ ?_
  rotate_left
  · intro w'
    go_simp
    with_reducible rfl
  rotate_left
  · simp only [Act.put, List.setIfInBounds_toArray, List.set_cons_zero, List.set_cons_succ]
    rfl
  refine pure_ (i := 2) (N := some 148) (v := ?_) (a' := ?_) #[true, true, true, false, false, false, false, false, false, false, false, false] rfl rfl (by kernel_rfl) (fun _ _ _ h => h) (Or.inl ⟨by rfl, ?_⟩) ?_ ?_
  rotate_left
  · intro w'
    go_simp
    with_reducible rfl
  rotate_left
  · simp only [Act.put, List.setIfInBounds_toArray, List.set_cons_zero, List.set_cons_succ]
    rfl
  refine take_ (i := 3) (N := some 149) (v := ?_) (a' := ?_) #[true, true, true, true, false, false, false, false, false, false, false, false] rfl rfl (by kernel_rfl) (fun _ _ _ h => h) (Or.inl ⟨by rfl, ?_⟩) hHeld ?_ ?_
  rotate_left
  · rintro w' ⟨s0, s1⟩
    go_simp
    with_reducible rfl
  rotate_left
  · simp only [Act.put, List.setIfInBounds_toArray, List.set_cons_zero, List.set_cons_succ]
    rfl
  refine pure_ (i := 5) (N := some 151) (v := ?_) (a' := ?_) #[true, true, true, true, false, true, false, false, false, false, false, false] rfl rfl (by kernel_rfl) (fun _ _ _ h => h) (Or.inl ⟨by rfl, ?_⟩) ?_ ?_
  rotate_left
  · intro w'
    go_simp
    with_reducible rfl
  rotate_left
  · simp only [Act.put, List.setIfInBounds_toArray, List.set_cons_zero, List.set_cons_succ]
    rfl
  refine pure_ (i := 6) (N := some 152) (v := ?_) (a' := ?_) #[true, true, true, true, false, true, true, false, false, false, false, false] rfl rfl (by kernel_rfl) (fun _ _ _ h => h) (Or.inl ⟨by rfl, ?_⟩) ?_ ?_
  rotate_left
  · intro w'
    go_simp
    with_reducible rfl
  rotate_left
  · simp only [Act.put, List.setIfInBounds_toArray, List.set_cons_zero, List.set_cons_succ]
    rfl
  refine pure_ (i := 7) (N := some 153) (v := ?_) (a' := ?_) #[true, true, true, true, false, true, true, true, false, false, false, false] rfl rfl (by kernel_rfl) (fun _ _ _ h => h) (Or.inl ⟨by rfl, ?_⟩) ?_ ?_
  rotate_left
  · intro w'
    go_simp
    with_reducible rfl
  rotate_left
  · simp only [Act.put, List.setIfInBounds_toArray, List.set_cons_zero, List.set_cons_succ]
    rfl
  refine take_ (i := 8) (N := some 154) (v := ?_) (a' := ?_) #[true, true, true, true, false, true, true, true, true, false, false, false] rfl rfl (by kernel_rfl) (fun _ _ _ h => h) (Or.inl ⟨by rfl, ?_⟩) hHeld ?_ ?_
  rotate_left
  · rintro w' ⟨s0, s1⟩
    go_simp
    with_reducible rfl
  rotate_left
  · simp only [Act.put, List.setIfInBounds_toArray, List.set_cons_zero, List.set_cons_succ]
    rfl
  refine one_ (i := 4) (N := some 150) #[true, true, true, true, true, true, true, true, true, false, false, false] rfl rfl (by kernel_rfl) (by decide) (fun K hK => ?_)
  refine goes_ Try.func25 (by kernel_rfl) rfl #[.pointer (some ⟨gb, 0, none⟩)] (by rfl) rfl rfl (by simp only [List.map_toArray, List.map_cons, List.map_nil]; rfl) ?_
  refine (HT1.out).mono ?_
  rintro e w' ⟨rfl, rfl⟩
  refine ⟨_, rfl, ?_⟩
  refine hK.out _ _ hHeld (fun hHeld => ?_)
  clear hK K
  refine norm_ (a' := ?_) ?_ ?_
  rotate_left
  · show Act.put _ (some 150) _ = _
    simp only [Act.put, List.setIfInBounds_toArray, List.set_cons_zero, List.set_cons_succ]
    rfl
  refine last_ (i := 9) (N := some 155) #[true, true, true, true, true, true, true, true, true, true, false, false] rfl rfl (by kernel_rfl) (by decide) (fun K hK => ?_)
  refine goes_ Try.func32 (by kernel_rfl) rfl #[.pointer (some ⟨gr, 0, none⟩)] (by rfl) rfl rfl (by simp only [List.map_toArray, List.map_cons, List.map_nil]; rfl) ?_
  refine (HT2.out).mono ?_
  rintro e w2 ⟨he, hb2⟩
  rw [HEQ.out] at he
  subst he
  refine ⟨_, rfl, ?_⟩
  refine hK.out _ _ ?_
  clear hK K
  refine norm_ (a' := ?_) ?_ ?_
  rotate_left
  · show Act.put _ (some 155) _ = _
    simp only [Act.put, List.setIfInBounds_toArray, List.set_cons_zero, List.set_cons_succ]
    rfl
  refine pure_ (i := 10) (N := some 156) (v := ?_) (a' := ?_) #[true, true, true, true, true, true, true, true, true, true, true, false] rfl rfl (by kernel_rfl) (fun _ _ _ h => h) (Or.inl ⟨by rfl, ?_⟩) ?_ ?_
  rotate_left
  · intro w'
    go_simp
    with_reducible rfl
  rotate_left
  · simp only [Act.put, List.setIfInBounds_toArray, List.set_cons_zero, List.set_cons_succ]
    rfl
  refine pure_ (i := 11) (N := some 4) (v := ?_) (a' := ?_) #[true, true, true, true, true, true, true, true, true, true, true, true] rfl rfl (by kernel_rfl) (fun _ _ _ h => h) (Or.inl ⟨by rfl, ?_⟩) ?_ ?_
  rotate_left
  · intro w'
    go_simp
    with_reducible rfl
  rotate_left
  · simp only [Act.put, List.setIfInBounds_toArray, List.set_cons_zero, List.set_cons_succ]
    rfl
  refine done_ (by kernel_rfl) ?_
  generalize b.now = z at *
  go_wp2
  go_ret
  exact ⟨by first | rfl | exact congrArg (fun t => Ending.returned (Value.bool t)) (beq_self_eq_true z), _, _, _, _, HPW.out.below hb2.out, HUA.out.trans (HUW.out.trans (Upd.of_below hb2.out (fun _ _ => rfl))), HR.out, HF.out.mono (by omega), Nat.le_trans HT.out (by omega)⟩

set_option maxRecDepth 100000 in
set_option maxHeartbeats 4000000 in
theorem plays28_none (h : PairAt w base ob oR g gb gr b r) (hR : Rel b r mode back n) (hm : mode = 1 ∨ mode = 2 ∨ mode = 3) (hn : 1 ≤ n) (hlo : -1 ≤ back) (hbn : ¬ (back = 0 ∧ n = 1)) (hF : Fit b mode back n NN) (hT : partsTs r.list ≤ NN) (hN : NN ≤ 50000) (o : S47) (A8 : Option Addr) (c8 : Nat) (A9 : Option Addr) (c9 : Nat) (A10 : Option Addr) (c10 : Nat) (A11 : Option Addr) (c11 : Nat) (A13 : Option Addr) (c13 : Nat) (a8 : Away k42 (both ob oR) w A8 o.f4.f1.f3) (l8 : o.f4.f1.f3.length ≤ c8) (a9 : Away (Kd.int .i64) (both ob oR) w A9 o.f4.f2) (l9 : o.f4.f2.length ≤ c9) (a10 : Away k45 (both ob oR) w A10 o.f5) (l10 : o.f5.length ≤ c10) (a11 : Away k45 (both ob oR) w A11 o.f6) (l11 : o.f6.length ≤ c11) (a13 : Away k104 (both ob oR) w A13 o.f7.f1) (l13 : o.f7.f1.length ≤ c13) (hpo : partsO o ≤ 20000) (hk1 : ¬ o.f0 = 1) (hk2 : ¬ o.f0 = 2) (hk3 : ¬ o.f0 = 3) (hk4 : ¬ o.f0 = 4) (hk5 : ¬ o.f0 = 5) : Calls Try.prog 28 #[.pointer (some ⟨g, 0, none⟩), .agg #[.int .i64 o.f0, .int .i64 o.f1, .int .i64 o.f2, .int .i64 o.f3, .string o.f4.f0, .int .i64 o.f4.f1.f0, .int .i64 o.f4.f1.f1, .string o.f4.f1.f2, .slice A8 o.f4.f1.f3.length c8, .slice A9 o.f4.f2.length c9, .slice A10 o.f5.length c10, .slice A11 o.f6.length c11, .int .i64 o.f7.f0, .slice A13 o.f7.f1.length c13]] w fun e w' => PlayPost base ob oR g gb gr mode back n (NN + partsO o) w e w' := by
  have HP := Lib.hid h
  have HR := Lib.hid hR
  have HM := Lib.hid hm
  have HN := Lib.hid hn
  have HLO := Lib.hid hlo
  have HBN := Lib.hid hbn
  have HF := Lib.hid hF
  have HT := Lib.hid hT
  have HNN := Lib.hid hN
  have HA8 := Lib.hid a8
  have HA9 := Lib.hid a9
  have HA10 := Lib.hid a10
  have HA11 := Lib.hid a11
  have HA13 := Lib.hid a13
  have HL8 := Lib.hid l8
  have HL9 := Lib.hid l9
  have HL10 := Lib.hid l10
  have HL11 := Lib.hid l11
  have HL13 := Lib.hid l13
  have HPO := Lib.hid hpo
  have hu : partsR o.f4 ≤ 20000 ∧ partsC o.f7.f1 ≤ 20000 ∧ partsRs o.f5 ≤ 20000 ∧ partsRs o.f6 ≤ 20000 := by unfold partsO at hpo; omega
  have HU := Lib.hid hu
  have HP0 : Hid (PairAt (w.alloc (.cells #[.int .i64 o.f0, .int .i64 o.f1, .int .i64 o.f2, .int .i64 o.f3, .string o.f4.f0, .int .i64 o.f4.f1.f0, .int .i64 o.f4.f1.f1, .string o.f4.f1.f2, .slice A8 o.f4.f1.f3.length c8, .slice A9 o.f4.f2.length c9, .slice A10 o.f5.length c10, .slice A11 o.f6.length c11, .int .i64 o.f7.f0, .slice A13 o.f7.f1.length c13] 47)) base ob oR g gb gr b r) := h.below ((Below.refl _ _).alloc (Nat.le_refl _) _)
  have HUA : Hid (Upd (both ob oR) w (both ob oR) (w.alloc (.cells #[.int .i64 o.f0, .int .i64 o.f1, .int .i64 o.f2, .int .i64 o.f3, .string o.f4.f0, .int .i64 o.f4.f1.f0, .int .i64 o.f4.f1.f1, .string o.f4.f1.f2, .slice A8 o.f4.f1.f3.length c8, .slice A9 o.f4.f2.length c9, .slice A10 o.f5.length c10, .slice A11 o.f6.length c11, .int .i64 o.f7.f0, .slice A13 o.f7.f1.length c13] 47))) := Upd.of_below ((Below.refl _ _).alloc (Nat.le_refl _) _) (fun _ _ => rfl)
  have HU0 : Hid (Upd (both ob oR) (w.alloc (.cells #[.int .i64 o.f0, .int .i64 o.f1, .int .i64 o.f2, .int .i64 o.f3, .string o.f4.f0, .int .i64 o.f4.f1.f0, .int .i64 o.f4.f1.f1, .string o.f4.f1.f2, .slice A8 o.f4.f1.f3.length c8, .slice A9 o.f4.f2.length c9, .slice A10 o.f5.length c10, .slice A11 o.f6.length c11, .int .i64 o.f7.f0, .slice A13 o.f7.f1.length c13] 47)) (both ob oR) (w.alloc (.cells #[.int .i64 o.f0, .int .i64 o.f1, .int .i64 o.f2, .int .i64 o.f3, .string o.f4.f0, .int .i64 o.f4.f1.f0, .int .i64 o.f4.f1.f1, .string o.f4.f1.f2, .slice A8 o.f4.f1.f3.length c8, .slice A9 o.f4.f2.length c9, .slice A10 o.f5.length c10, .slice A11 o.f6.length c11, .int .i64 o.f7.f0, .slice A13 o.f7.f1.length c13] 47))) := Upd.refl _ _
  have HX0 : Hid (((w.alloc (.cells #[.int .i64 o.f0, .int .i64 o.f1, .int .i64 o.f2, .int .i64 o.f3, .string o.f4.f0, .int .i64 o.f4.f1.f0, .int .i64 o.f4.f1.f1, .string o.f4.f1.f2, .slice A8 o.f4.f1.f3.length c8, .slice A9 o.f4.f2.length c9, .slice A10 o.f5.length c10, .slice A11 o.f6.length c11, .int .i64 o.f7.f0, .slice A13 o.f7.f1.length c13] 47))).heap[w.heap.size]? = some (.cells #[.int .i64 o.f0, .int .i64 o.f1, .int .i64 o.f2, .int .i64 o.f3, .string o.f4.f0, .int .i64 o.f4.f1.f0, .int .i64 o.f4.f1.f1, .string o.f4.f1.f2, .slice A8 o.f4.f1.f3.length c8, .slice A9 o.f4.f2.length c9, .slice A10 o.f5.length c10, .slice A11 o.f6.length c11, .int .i64 o.f7.f0, .slice A13 o.f7.f1.length c13] 47 (0, 0))) := blk_new w _
  have HFR : Hid (both ob oR w.heap.size = 0) := h.free (Nat.le_refl _)
  have hgl : g < w.heap.size := blk_lt h.hg
  have p0 : w.cell? ⟨g, 0, none⟩ = some (.pointer (some ⟨gb, 0, none⟩)) := blk_at h.hg 0 rfl
  have p1 : w.cell? ⟨g, 1, none⟩ = some (.pointer (some ⟨gr, 0, none⟩)) := blk_at h.hg 1 rfl
  clear h hR hm hn hlo hbn hF hT hN a8 l8 a9 l9 a10 l10 a11 l11 a13 l13 hpo hu
  have k1' : (o.f0 == 1) = false := beq_false_of_ne hk1
  have k2' : (o.f0 == 2) = false := beq_false_of_ne hk2
  have k3' : (o.f0 == 3) = false := beq_false_of_ne hk3
  have k4' : (o.f0 == 4) = false := beq_false_of_ne hk4
  have k5' : (o.f0 == 5) = false := beq_false_of_ne hk5
  clear hk1 hk2 hk3 hk4 hk5
  go_enter Try.func28, Try.ntmps28
  go_wp2
  go_ret
  exact ⟨rfl, _, _, _, _, HP0.out, HUA.out, HR.out, HF.out.mono (by omega), Nat.le_trans HT.out (by omega)⟩

theorem logs_C {W : World} {gl : Nat} {lv : List Value} {logs : List (List S45)} (hb : W.heap[gl]? = some (.cells lv.toArray 35 (0, 0))) (hl : lv.length = logs.length) (h4 : logs.length ≤ 100)
    (hr : ∀ i, i < logs.length → ∃ A c, lv.getD i (.slice none 0 0) = .slice A (logs.getD i []).length c ∧ (logs.getD i []).length ≤ c ∧ Kd.C k45 W A (logs.getD i []).length (logs.getD i [])) : Kd.C (Kd.slice 45 k45) W (some ⟨gl, 0, none⟩) logs.length logs := by
  refine ⟨rfl, by omega, fun _ => ⟨_, rfl, fun j p hp => ?_⟩⟩
  have hj : j < logs.length := (List.getElem?_eq_some_iff.1 hp).1
  obtain ⟨A, c, h1, h2, h3⟩ := hr j hj
  have hpj : logs.getD j [] = p := by rw [List.getD_eq_getElem?_getD, hp]; rfl
  rw [hpj] at h1 h2 h3
  refine ⟨[.slice A p.length c], rfl, ⟨A, c, rfl, h2, h3⟩, fun i u hu => ?_⟩
  have hi : i = 0 := by
    have := (List.getElem?_eq_some_iff.1 hu).1
    simp at this
    exact this
  subst hi
  simp at hu
  subst hu
  have e : (⟨gl, 0, none⟩ : Addr).add (j * (Kd.slice 45 k45).sz + 0) = ⟨gl, j, none⟩ := by
    show (⟨gl, 0, none⟩ : Addr).add (j * 1 + 0) = _
    rw [Nat.mul_one, Nat.add_zero]
    exact add_plain gl j
  rw [e]
  refine blk_at hb j ?_
  rw [List.getElem?_toArray, List.getElem?_eq_getElem (by omega)]
  rw [List.getD_eq_getElem?_getD, List.getElem?_eq_getElem (by omega)] at h1
  exact congrArg some h1
theorem logs_reads {w2 W : World} {S : Nat → Prop} {base gl : Nat} {own own' : Nat → Nat} {lv : List Value} {logs : List (List S45)} (hb : w2.heap[gl]? = some (.cells lv.toArray 35 (0, 0))) (hS : S gl) (hl : lv.length = logs.length) (h4 : logs.length ≤ 100)
    (hr : ∀ i, i < logs.length → Kd.R k45 45 w2 base S (lv.getD i (.slice none 0 0)) (logs.getD i [])) (u : Upd own w2 own' W) (ho : ∀ k, S k → own k = 0) : Kd.C (Kd.slice 45 k45) W (some ⟨gl, 0, none⟩) logs.length logs := by
  refine logs_C ((u.block gl (blk_lt hb) (ho gl hS)).trans hb) hl h4 (fun i hi => ?_)
  exact Kd.R_reads (Kd.R_step (hr i hi) (fun k hk hlt => u.block k hlt (ho k hk)))
theorem C_none {α : Type} (d : Kd α) (W : World) : Kd.C d W none ([] : List α).length [] := ⟨rfl, by simp, fun h => absurd h (Nat.lt_irrefl 0)⟩
set_option maxRecDepth 100000 in
set_option maxHeartbeats 4000000 in
theorem plays28_part_yes (h : PairAt w base ob oR g gb gr b r) (hR : Rel b r mode back n) (hm : mode = 1 ∨ mode = 2 ∨ mode = 3) (hn : 1 ≤ n) (hlo : -1 ≤ back) (hbn : ¬ (back = 0 ∧ n = 1)) (hF : Fit b mode back n NN) (hT : partsTs r.list ≤ NN) (hN : NN ≤ 50000) (o : S47) (A8 : Option Addr) (c8 : Nat) (A9 : Option Addr) (c9 : Nat) (A10 : Option Addr) (c10 : Nat) (A11 : Option Addr) (c11 : Nat) (A13 : Option Addr) (c13 : Nat) (a8 : Away k42 (both ob oR) w A8 o.f4.f1.f3) (l8 : o.f4.f1.f3.length ≤ c8) (a9 : Away (Kd.int .i64) (both ob oR) w A9 o.f4.f2) (l9 : o.f4.f2.length ≤ c9) (a10 : Away k45 (both ob oR) w A10 o.f5) (l10 : o.f5.length ≤ c10) (a11 : Away k45 (both ob oR) w A11 o.f6) (l11 : o.f6.length ≤ c11) (a13 : Away k104 (both ob oR) w A13 o.f7.f1) (l13 : o.f7.f1.length ≤ c13) (hpo : partsO o ≤ 20000) (hk : o.f0 = 3) (hrd : r.ready = true) : Calls Try.prog 28 #[.pointer (some ⟨g, 0, none⟩), .agg #[.int .i64 o.f0, .int .i64 o.f1, .int .i64 o.f2, .int .i64 o.f3, .string o.f4.f0, .int .i64 o.f4.f1.f0, .int .i64 o.f4.f1.f1, .string o.f4.f1.f2, .slice A8 o.f4.f1.f3.length c8, .slice A9 o.f4.f2.length c9, .slice A10 o.f5.length c10, .slice A11 o.f6.length c11, .int .i64 o.f7.f0, .slice A13 o.f7.f1.length c13]] w fun e w' => PlayPost base ob oR g gb gr mode back n (NN + partsO o) w e w' := by
  have HRD : Hid (b.ready = true) := by rw [← hR.ready]; exact Lib.hid hrd
  have HRR := Lib.hid hrd
  have HPE := Lib.hid (hR.parts hrd)
  have HLG : Hid (b.logs.length ≤ 100) := by
    have h1 := hR.1.bl
    have h2 := h.hb
    obtain ⟨gp, gl, vc, vd, lv, h2⟩ := h2
    have h3 := h2.lp
    have h4 := hR.1.bn
    exact Lib.hid (by omega)
  clear hrd
  have HP := Lib.hid h
  have HR := Lib.hid hR
  have HM := Lib.hid hm
  have HN := Lib.hid hn
  have HLO := Lib.hid hlo
  have HBN := Lib.hid hbn
  have HF := Lib.hid hF
  have HT := Lib.hid hT
  have HNN := Lib.hid hN
  have HA8 := Lib.hid a8
  have HA9 := Lib.hid a9
  have HA10 := Lib.hid a10
  have HA11 := Lib.hid a11
  have HA13 := Lib.hid a13
  have HL8 := Lib.hid l8
  have HL9 := Lib.hid l9
  have HL10 := Lib.hid l10
  have HL11 := Lib.hid l11
  have HL13 := Lib.hid l13
  have HPO := Lib.hid hpo
  have hu : partsR o.f4 ≤ 20000 ∧ partsC o.f7.f1 ≤ 20000 ∧ partsRs o.f5 ≤ 20000 ∧ partsRs o.f6 ≤ 20000 := by unfold partsO at hpo; omega
  have HU := Lib.hid hu
  have HP0 : Hid (PairAt (w.alloc (.cells #[.int .i64 o.f0, .int .i64 o.f1, .int .i64 o.f2, .int .i64 o.f3, .string o.f4.f0, .int .i64 o.f4.f1.f0, .int .i64 o.f4.f1.f1, .string o.f4.f1.f2, .slice A8 o.f4.f1.f3.length c8, .slice A9 o.f4.f2.length c9, .slice A10 o.f5.length c10, .slice A11 o.f6.length c11, .int .i64 o.f7.f0, .slice A13 o.f7.f1.length c13] 47)) base ob oR g gb gr b r) := h.below ((Below.refl _ _).alloc (Nat.le_refl _) _)
  have HUA : Hid (Upd (both ob oR) w (both ob oR) (w.alloc (.cells #[.int .i64 o.f0, .int .i64 o.f1, .int .i64 o.f2, .int .i64 o.f3, .string o.f4.f0, .int .i64 o.f4.f1.f0, .int .i64 o.f4.f1.f1, .string o.f4.f1.f2, .slice A8 o.f4.f1.f3.length c8, .slice A9 o.f4.f2.length c9, .slice A10 o.f5.length c10, .slice A11 o.f6.length c11, .int .i64 o.f7.f0, .slice A13 o.f7.f1.length c13] 47))) := Upd.of_below ((Below.refl _ _).alloc (Nat.le_refl _) _) (fun _ _ => rfl)
  have HU0 : Hid (Upd (both ob oR) (w.alloc (.cells #[.int .i64 o.f0, .int .i64 o.f1, .int .i64 o.f2, .int .i64 o.f3, .string o.f4.f0, .int .i64 o.f4.f1.f0, .int .i64 o.f4.f1.f1, .string o.f4.f1.f2, .slice A8 o.f4.f1.f3.length c8, .slice A9 o.f4.f2.length c9, .slice A10 o.f5.length c10, .slice A11 o.f6.length c11, .int .i64 o.f7.f0, .slice A13 o.f7.f1.length c13] 47)) (both ob oR) (w.alloc (.cells #[.int .i64 o.f0, .int .i64 o.f1, .int .i64 o.f2, .int .i64 o.f3, .string o.f4.f0, .int .i64 o.f4.f1.f0, .int .i64 o.f4.f1.f1, .string o.f4.f1.f2, .slice A8 o.f4.f1.f3.length c8, .slice A9 o.f4.f2.length c9, .slice A10 o.f5.length c10, .slice A11 o.f6.length c11, .int .i64 o.f7.f0, .slice A13 o.f7.f1.length c13] 47))) := Upd.refl _ _
  have HX0 : Hid (((w.alloc (.cells #[.int .i64 o.f0, .int .i64 o.f1, .int .i64 o.f2, .int .i64 o.f3, .string o.f4.f0, .int .i64 o.f4.f1.f0, .int .i64 o.f4.f1.f1, .string o.f4.f1.f2, .slice A8 o.f4.f1.f3.length c8, .slice A9 o.f4.f2.length c9, .slice A10 o.f5.length c10, .slice A11 o.f6.length c11, .int .i64 o.f7.f0, .slice A13 o.f7.f1.length c13] 47))).heap[w.heap.size]? = some (.cells #[.int .i64 o.f0, .int .i64 o.f1, .int .i64 o.f2, .int .i64 o.f3, .string o.f4.f0, .int .i64 o.f4.f1.f0, .int .i64 o.f4.f1.f1, .string o.f4.f1.f2, .slice A8 o.f4.f1.f3.length c8, .slice A9 o.f4.f2.length c9, .slice A10 o.f5.length c10, .slice A11 o.f6.length c11, .int .i64 o.f7.f0, .slice A13 o.f7.f1.length c13] 47 (0, 0))) := blk_new w _
  have HFR : Hid (both ob oR w.heap.size = 0) := h.free (Nat.le_refl _)
  have hgl : g < w.heap.size := blk_lt h.hg
  have p0 : w.cell? ⟨g, 0, none⟩ = some (.pointer (some ⟨gb, 0, none⟩)) := blk_at h.hg 0 rfl
  have p1 : w.cell? ⟨g, 1, none⟩ = some (.pointer (some ⟨gr, 0, none⟩)) := blk_at h.hg 1 rfl
  clear h hR hm hn hlo hbn hF hT hN a8 l8 a9 l9 a10 l10 a11 l11 a13 l13 hpo hu
  have k1' : (o.f0 == 1) = false := beq_false_of_ne (by omega)
  have k2' : (o.f0 == 2) = false := beq_false_of_ne (by omega)
  have k3' : (o.f0 == 3) = true := by simp [hk]
  clear hk
  obtain ⟨gp, gl, vc, vd, lv, hbk⟩ := HP0.out.hb
  have HT22 := Lib.hid (part22 hbk)
  clear hbk
  go_enter Try.func28, Try.ntmps28
  go_wp2_with (first
    | (go_at_call 22; refine HT22.out.mono ?_; intro e w2 hq
       unfold PartAns at hq
       rw [if_pos HRD.out] at hq
       obtain ⟨ob2, v, rfl, hb2, u2, vc2, gl2, vd2, lv2, rfl, hvc, hvd, hgl2, hS, hlv, hrows⟩ := hq
       obtain ⟨Ac, cc2, rfl⟩ := Kd.R_slice hvc
       obtain ⟨Ad, cd, rfl⟩ := Kd.R_slice hvd
       have HV1 := Lib.hid hvc
       have HV2 := Lib.hid hvd
       have HV3 := Lib.hid (And.intro hgl2 (And.intro hS (And.intro hlv hrows)))
       have HO : Hid (∀ k, (ob k ≠ 0 ∧ ob2 k = 0) → oR k = 0) := fun k hk => HP.out.ds k hk.1
       have HP2 : Hid (PairAt w2 base ob2 oR g gb gr b.handed r) := ⟨(u2.block g (blk_lt HP0.out.hg) HP0.out.g0.1).trans HP0.out.hg, hb2, HP0.out.hr.kept u2 HP0.out.ds', fun k hk => by
          by_cases h1 : oR k = 0
          · exact h1
          · exact absurd (u2.same k (HP0.out.hr.lt k h1).2 (HP0.out.ds' k h1)) hk, ⟨u2.same g (blk_lt HP0.out.hg) HP0.out.g0.1, HP0.out.g0.2⟩, Nat.le_trans HP0.out.bs u2.size⟩
       have HU2 : Hid (Upd (both ob oR) (w.alloc (.cells #[.int .i64 o.f0, .int .i64 o.f1, .int .i64 o.f2, .int .i64 o.f3, .string o.f4.f0, .int .i64 o.f4.f1.f0, .int .i64 o.f4.f1.f1, .string o.f4.f1.f2, .slice A8 o.f4.f1.f3.length c8, .slice A9 o.f4.f2.length c9, .slice A10 o.f5.length c10, .slice A11 o.f6.length c11, .int .i64 o.f7.f0, .slice A13 o.f7.f1.length c13] 47)) (both ob2 oR) w2) := u2.bothB
       have q1 : w2.cell? ⟨g, 1, none⟩ = some (.pointer (some ⟨gr, 0, none⟩)) := blk_at HP2.out.hg 1 rfl
       have qg : g < w2.heap.size := blk_lt HP2.out.hg
       clear hb2 u2 hvc hvd hgl2 hS hlv hrows)
    | (go_at_call 51
       have HPB : Hid (PairAt (w2.alloc (.cells #[.int .i64 b.st.f0, .slice Ac b.st.f1.length cc2, .slice (some ⟨gl2, 0, none⟩) b.logs.length b.logs.length, .slice Ad b.pend.length cd] 55)) base ob2 oR g gb gr b.handed r) := HP2.out.below ((Below.refl _ _).alloc (Nat.le_refl _) _)
       have HX2 : Hid (((w2.alloc (.cells #[.int .i64 b.st.f0, .slice Ac b.st.f1.length cc2, .slice (some ⟨gl2, 0, none⟩) b.logs.length b.logs.length, .slice Ad b.pend.length cd] 55))).heap[w2.heap.size]? = some (.cells #[.int .i64 b.st.f0, .slice Ac b.st.f1.length cc2, .slice (some ⟨gl2, 0, none⟩) b.logs.length b.logs.length, .slice Ad b.pend.length cd] 55 (0, 0))) := blk_new w2 _
       obtain ⟨Ar, cr, hr0⟩ := HPB.out.hr
       refine (part51 hr0 HPB.out.bs (RSz.of HT.out (by have := HNN.out; omega))).mono ?_
       intro e w4 hq
       unfold RPartAns at hq
       rw [if_pos HRR.out, ← HPE.out.1, ← HPE.out.2.1, ← HPE.out.2.2.1, ← HPE.out.2.2.2.1] at hq
       obtain ⟨A1, c1, A2, c2, A3, c3, rfl, hp, hC1, hC2, hC3⟩ := hq
       obtain ⟨oR4, HP4, hu4⟩ := HPB.out.stepR hp
       have HP4' := Lib.hid HP4
       have HU4 : Hid (Upd (both ob oR) (w.alloc (.cells #[.int .i64 o.f0, .int .i64 o.f1, .int .i64 o.f2, .int .i64 o.f3, .string o.f4.f0, .int .i64 o.f4.f1.f0, .int .i64 o.f4.f1.f1, .string o.f4.f1.f2, .slice A8 o.f4.f1.f3.length c8, .slice A9 o.f4.f2.length c9, .slice A10 o.f5.length c10, .slice A11 o.f6.length c11, .int .i64 o.f7.f0, .slice A13 o.f7.f1.length c13] 47)) (both ob2 oR4) w4) := (HU2.out.trans (Upd.of_below ((Below.refl _ _).alloc (Nat.le_refl _) _) (fun _ _ => rfl))).trans hu4
       have HC1 := Lib.hid hC1
       have HC2 := Lib.hid hC2
       have HC3 := Lib.hid hC3
       obtain ⟨oRx, _, ux⟩ := hp
       have HUX : Hid (Upd oR w2 oRx w4) := (Upd.of_below ((Below.refl _ _).alloc (Nat.le_refl _) _) (fun _ _ => rfl)).trans ux
       have HX4 : Hid (w4.heap[w2.heap.size]? = some (.cells #[.int .i64 b.st.f0, .slice Ac b.st.f1.length cc2, .slice (some ⟨gl2, 0, none⟩) b.logs.length b.logs.length, .slice Ad b.pend.length cd] 55 (0, 0))) := (ux.block _ (by simp) (by have := HP2.out.free (Nat.le_refl _); unfold both at this; omega)).trans HX2.out
       have x0 : w4.cell? ⟨w2.heap.size, 0, none⟩ = some (.int .i64 b.st.f0) := blk_at HX4.out 0 rfl
       have x1 : w4.cell? ⟨w2.heap.size, 1, none⟩ = some (.slice Ac b.st.f1.length cc2) := blk_at HX4.out 1 rfl
       have x2 : w4.cell? ⟨w2.heap.size, 2, none⟩ = some (.slice (some ⟨gl2, 0, none⟩) b.logs.length b.logs.length) := blk_at HX4.out 2 rfl
       have x3 : w4.cell? ⟨w2.heap.size, 3, none⟩ = some (.slice Ad b.pend.length cd) := blk_at HX4.out 3 rfl
       have xl : w2.heap.size < w4.heap.size := blk_lt HX4.out
       have hz1 : (b.now == b.now) = true := beq_self_eq_true _
       clear hr0 HP4 hu4 hC1 hC2 hC3 ux q1)
    | (go_at_call 52
       have hbl : Below w4.heap.size w4 (w4.alloc (.cells #[.int .i64 b.st.f0, .slice A1 b.st.f1.length c1, .slice A2 b.logs.length c2, .slice A3 b.pend.length c3] 55)) := (Below.refl _ _).alloc (Nat.le_refl _) _
       have hux : Upd oR w2 oRx (w4.alloc (.cells #[.int .i64 b.st.f0, .slice A1 b.st.f1.length c1, .slice A2 b.logs.length c2, .slice A3 b.pend.length c3] 55)) := HUX.out.trans (Upd.of_below hbl (fun _ _ => rfl))
       refine (same52 b.st b.logs b.pend Ac cc2 (some ⟨gl2, 0, none⟩) b.logs.length Ad cd A1 c1 A2 c2 A3 c3 _ (Away.of_R (own := oR) HV1.out (fun k hk _ => HO.out k hk) _ _ hux) (logs_reads HV3.out.1 HV3.out.2.1 HV3.out.2.2.1 HLG.out HV3.out.2.2.2 hux HO.out) (Away.of_R (own := oR) HV2.out (fun k hk _ => HO.out k hk) _ _ hux) (Kd.C_below HC1.out hbl) (Kd.C_below HC2.out hbl) (Kd.C_below HC3.out hbl)).mono ?_
       rintro e w6 ⟨rfl, hb6⟩
       have HB6 : Hid (Below w4.heap.size w4 w6) := hbl.trans (hb6.out.mono (by simp))
       clear hb6 hbl hux))
  go_ret
  exact ⟨rfl, _, _, _, _, HP4'.out.below HB6.out, HUA.out.trans (HU4.out.trans (Upd.of_below HB6.out (fun _ _ => rfl))), HPE.out.2.2.2.2, HF.out.handed.mono (Nat.zero_le _), Nat.le_trans HT.out (by omega)⟩

set_option maxRecDepth 100000 in
set_option maxHeartbeats 4000000 in
theorem plays28_part_no (h : PairAt w base ob oR g gb gr b r) (hR : Rel b r mode back n) (hm : mode = 1 ∨ mode = 2 ∨ mode = 3) (hn : 1 ≤ n) (hlo : -1 ≤ back) (hbn : ¬ (back = 0 ∧ n = 1)) (hF : Fit b mode back n NN) (hT : partsTs r.list ≤ NN) (hN : NN ≤ 50000) (o : S47) (A8 : Option Addr) (c8 : Nat) (A9 : Option Addr) (c9 : Nat) (A10 : Option Addr) (c10 : Nat) (A11 : Option Addr) (c11 : Nat) (A13 : Option Addr) (c13 : Nat) (a8 : Away k42 (both ob oR) w A8 o.f4.f1.f3) (l8 : o.f4.f1.f3.length ≤ c8) (a9 : Away (Kd.int .i64) (both ob oR) w A9 o.f4.f2) (l9 : o.f4.f2.length ≤ c9) (a10 : Away k45 (both ob oR) w A10 o.f5) (l10 : o.f5.length ≤ c10) (a11 : Away k45 (both ob oR) w A11 o.f6) (l11 : o.f6.length ≤ c11) (a13 : Away k104 (both ob oR) w A13 o.f7.f1) (l13 : o.f7.f1.length ≤ c13) (hpo : partsO o ≤ 20000) (hk : o.f0 = 3) (hrd : r.ready = false) : Calls Try.prog 28 #[.pointer (some ⟨g, 0, none⟩), .agg #[.int .i64 o.f0, .int .i64 o.f1, .int .i64 o.f2, .int .i64 o.f3, .string o.f4.f0, .int .i64 o.f4.f1.f0, .int .i64 o.f4.f1.f1, .string o.f4.f1.f2, .slice A8 o.f4.f1.f3.length c8, .slice A9 o.f4.f2.length c9, .slice A10 o.f5.length c10, .slice A11 o.f6.length c11, .int .i64 o.f7.f0, .slice A13 o.f7.f1.length c13]] w fun e w' => PlayPost base ob oR g gb gr mode back n (NN + partsO o) w e w' := by
  have HRD : Hid (b.ready = false) := by rw [← hR.ready]; exact Lib.hid hrd
  have HRR := Lib.hid hrd
  clear hrd
  have HP := Lib.hid h
  have HR := Lib.hid hR
  have HM := Lib.hid hm
  have HN := Lib.hid hn
  have HLO := Lib.hid hlo
  have HBN := Lib.hid hbn
  have HF := Lib.hid hF
  have HT := Lib.hid hT
  have HNN := Lib.hid hN
  have HA8 := Lib.hid a8
  have HA9 := Lib.hid a9
  have HA10 := Lib.hid a10
  have HA11 := Lib.hid a11
  have HA13 := Lib.hid a13
  have HL8 := Lib.hid l8
  have HL9 := Lib.hid l9
  have HL10 := Lib.hid l10
  have HL11 := Lib.hid l11
  have HL13 := Lib.hid l13
  have HPO := Lib.hid hpo
  have hu : partsR o.f4 ≤ 20000 ∧ partsC o.f7.f1 ≤ 20000 ∧ partsRs o.f5 ≤ 20000 ∧ partsRs o.f6 ≤ 20000 := by unfold partsO at hpo; omega
  have HU := Lib.hid hu
  have HP0 : Hid (PairAt (w.alloc (.cells #[.int .i64 o.f0, .int .i64 o.f1, .int .i64 o.f2, .int .i64 o.f3, .string o.f4.f0, .int .i64 o.f4.f1.f0, .int .i64 o.f4.f1.f1, .string o.f4.f1.f2, .slice A8 o.f4.f1.f3.length c8, .slice A9 o.f4.f2.length c9, .slice A10 o.f5.length c10, .slice A11 o.f6.length c11, .int .i64 o.f7.f0, .slice A13 o.f7.f1.length c13] 47)) base ob oR g gb gr b r) := h.below ((Below.refl _ _).alloc (Nat.le_refl _) _)
  have HUA : Hid (Upd (both ob oR) w (both ob oR) (w.alloc (.cells #[.int .i64 o.f0, .int .i64 o.f1, .int .i64 o.f2, .int .i64 o.f3, .string o.f4.f0, .int .i64 o.f4.f1.f0, .int .i64 o.f4.f1.f1, .string o.f4.f1.f2, .slice A8 o.f4.f1.f3.length c8, .slice A9 o.f4.f2.length c9, .slice A10 o.f5.length c10, .slice A11 o.f6.length c11, .int .i64 o.f7.f0, .slice A13 o.f7.f1.length c13] 47))) := Upd.of_below ((Below.refl _ _).alloc (Nat.le_refl _) _) (fun _ _ => rfl)
  have HU0 : Hid (Upd (both ob oR) (w.alloc (.cells #[.int .i64 o.f0, .int .i64 o.f1, .int .i64 o.f2, .int .i64 o.f3, .string o.f4.f0, .int .i64 o.f4.f1.f0, .int .i64 o.f4.f1.f1, .string o.f4.f1.f2, .slice A8 o.f4.f1.f3.length c8, .slice A9 o.f4.f2.length c9, .slice A10 o.f5.length c10, .slice A11 o.f6.length c11, .int .i64 o.f7.f0, .slice A13 o.f7.f1.length c13] 47)) (both ob oR) (w.alloc (.cells #[.int .i64 o.f0, .int .i64 o.f1, .int .i64 o.f2, .int .i64 o.f3, .string o.f4.f0, .int .i64 o.f4.f1.f0, .int .i64 o.f4.f1.f1, .string o.f4.f1.f2, .slice A8 o.f4.f1.f3.length c8, .slice A9 o.f4.f2.length c9, .slice A10 o.f5.length c10, .slice A11 o.f6.length c11, .int .i64 o.f7.f0, .slice A13 o.f7.f1.length c13] 47))) := Upd.refl _ _
  have HX0 : Hid (((w.alloc (.cells #[.int .i64 o.f0, .int .i64 o.f1, .int .i64 o.f2, .int .i64 o.f3, .string o.f4.f0, .int .i64 o.f4.f1.f0, .int .i64 o.f4.f1.f1, .string o.f4.f1.f2, .slice A8 o.f4.f1.f3.length c8, .slice A9 o.f4.f2.length c9, .slice A10 o.f5.length c10, .slice A11 o.f6.length c11, .int .i64 o.f7.f0, .slice A13 o.f7.f1.length c13] 47))).heap[w.heap.size]? = some (.cells #[.int .i64 o.f0, .int .i64 o.f1, .int .i64 o.f2, .int .i64 o.f3, .string o.f4.f0, .int .i64 o.f4.f1.f0, .int .i64 o.f4.f1.f1, .string o.f4.f1.f2, .slice A8 o.f4.f1.f3.length c8, .slice A9 o.f4.f2.length c9, .slice A10 o.f5.length c10, .slice A11 o.f6.length c11, .int .i64 o.f7.f0, .slice A13 o.f7.f1.length c13] 47 (0, 0))) := blk_new w _
  have HFR : Hid (both ob oR w.heap.size = 0) := h.free (Nat.le_refl _)
  have hgl : g < w.heap.size := blk_lt h.hg
  have p0 : w.cell? ⟨g, 0, none⟩ = some (.pointer (some ⟨gb, 0, none⟩)) := blk_at h.hg 0 rfl
  have p1 : w.cell? ⟨g, 1, none⟩ = some (.pointer (some ⟨gr, 0, none⟩)) := blk_at h.hg 1 rfl
  clear h hR hm hn hlo hbn hF hT hN a8 l8 a9 l9 a10 l10 a11 l11 a13 l13 hpo hu
  have k1' : (o.f0 == 1) = false := beq_false_of_ne (by omega)
  have k2' : (o.f0 == 2) = false := beq_false_of_ne (by omega)
  have k3' : (o.f0 == 3) = true := by simp [hk]
  clear hk
  obtain ⟨gp, gl, vc, vd, lv, hbk⟩ := HP0.out.hb
  have HT22 := Lib.hid (part22 hbk)
  clear hbk
  go_enter Try.func28, Try.ntmps28
  go_wp2_with (first
    | (go_at_call 22; refine HT22.out.mono ?_; intro e w2 hq
       unfold PartAns at hq
       rw [if_neg (by rw [HRD.out]; simp)] at hq
       obtain ⟨rfl, hp⟩ := hq
       obtain ⟨ob2, HP2, hu2⟩ := HP0.out.stepB hp
       have HP2' := Lib.hid HP2
       have HU2 := Lib.hid hu2
       have q1 : w2.cell? ⟨g, 1, none⟩ = some (.pointer (some ⟨gr, 0, none⟩)) := blk_at HP2'.out.hg 1 rfl
       have qg : g < w2.heap.size := blk_lt HP2'.out.hg
       clear HP2 hu2 hp)
    | (go_at_call 51
       have HPB : Hid (PairAt (w2.alloc (.cells #[.int .i64 0, .slice none 0 0, .slice none 0 0, .slice none 0 0] 55)) base ob2 oR g gb gr b r) := HP2'.out.below ((Below.refl _ _).alloc (Nat.le_refl _) _)
       obtain ⟨Ar, cr, hr0⟩ := HPB.out.hr
       refine (part51 hr0 HPB.out.bs (RSz.of HT.out (by have := HNN.out; omega))).mono ?_
       intro e w4 hq
       unfold RPartAns at hq
       rw [if_neg (by rw [HRR.out]; simp)] at hq
       obtain ⟨rfl, hp⟩ := hq
       obtain ⟨oR4, HP4, hu4⟩ := HPB.out.stepR hp
       have HP4' := Lib.hid HP4
       have HU4 : Hid (Upd (both ob oR) (w.alloc (.cells #[.int .i64 o.f0, .int .i64 o.f1, .int .i64 o.f2, .int .i64 o.f3, .string o.f4.f0, .int .i64 o.f4.f1.f0, .int .i64 o.f4.f1.f1, .string o.f4.f1.f2, .slice A8 o.f4.f1.f3.length c8, .slice A9 o.f4.f2.length c9, .slice A10 o.f5.length c10, .slice A11 o.f6.length c11, .int .i64 o.f7.f0, .slice A13 o.f7.f1.length c13] 47)) (both ob2 oR4) w4) := (HU2.out.trans (Upd.of_below ((Below.refl _ _).alloc (Nat.le_refl _) _) (fun _ _ => rfl))).trans hu4
       have HX4 : Hid (w4.heap[w2.heap.size]? = some (.cells #[.int .i64 0, .slice none 0 0, .slice none 0 0, .slice none 0 0] 55 (0, 0))) := (hu4.block _ (by simp) (HP2'.out.free (Nat.le_refl _))).trans (blk_new w2 _)
       have x0 : w4.cell? ⟨w2.heap.size, 0, none⟩ = some (.int .i64 0) := blk_at HX4.out 0 rfl
       have x1 : w4.cell? ⟨w2.heap.size, 1, none⟩ = some (.slice none 0 0) := blk_at HX4.out 1 rfl
       have x2 : w4.cell? ⟨w2.heap.size, 2, none⟩ = some (.slice none 0 0) := blk_at HX4.out 2 rfl
       have x3 : w4.cell? ⟨w2.heap.size, 3, none⟩ = some (.slice none 0 0) := blk_at HX4.out 3 rfl
       have xl : w2.heap.size < w4.heap.size := blk_lt HX4.out
       clear hr0 HP4 hu4 hp q1)
    | (go_at_call 52
       have hbl : Below w4.heap.size w4 (w4.alloc (.cells #[.int .i64 0, .slice none 0 0, .slice none 0 0, .slice none 0 0] 55)) := (Below.refl _ _).alloc (Nat.le_refl _) _
       refine (same52 ⟨0, []⟩ [] [] none 0 none 0 none 0 none 0 none 0 none 0 _ (C_none _ _) (C_none _ _) (C_none _ _) (C_none _ _) (C_none _ _) (C_none _ _)).mono ?_
       rintro e w6 ⟨rfl, hb6⟩
       have HB6 : Hid (Below w4.heap.size w4 w6) := hbl.trans (hb6.out.mono (by simp))
       clear hb6 hbl))
  go_ret
  exact ⟨rfl, _, _, _, _, HP4'.out.below HB6.out, HUA.out.trans (HU4.out.trans (Upd.of_below HB6.out (fun _ _ => rfl))), HR.out, HF.out.mono (by omega), Nat.le_trans HT.out (by omega)⟩
theorem plays28 (h : PairAt w base ob oR g gb gr b r) (hR : Rel b r mode back n) (hm : mode = 1 ∨ mode = 2 ∨ mode = 3) (hn : 1 ≤ n) (hlo : -1 ≤ back) (hbn : ¬ (back = 0 ∧ n = 1)) (hF : Fit b mode back n NN) (hT : partsTs r.list ≤ NN) (hN : NN ≤ 50000) (o : S47) (A8 : Option Addr) (c8 : Nat) (A9 : Option Addr) (c9 : Nat) (A10 : Option Addr) (c10 : Nat) (A11 : Option Addr) (c11 : Nat) (A13 : Option Addr) (c13 : Nat) (a8 : Away k42 (both ob oR) w A8 o.f4.f1.f3) (l8 : o.f4.f1.f3.length ≤ c8) (a9 : Away (Kd.int .i64) (both ob oR) w A9 o.f4.f2) (l9 : o.f4.f2.length ≤ c9) (a10 : Away k45 (both ob oR) w A10 o.f5) (l10 : o.f5.length ≤ c10) (a11 : Away k45 (both ob oR) w A11 o.f6) (l11 : o.f6.length ≤ c11) (a13 : Away k104 (both ob oR) w A13 o.f7.f1) (l13 : o.f7.f1.length ≤ c13) (hpo : partsO o ≤ 20000) : Calls Try.prog 28 #[.pointer (some ⟨g, 0, none⟩), .agg #[.int .i64 o.f0, .int .i64 o.f1, .int .i64 o.f2, .int .i64 o.f3, .string o.f4.f0, .int .i64 o.f4.f1.f0, .int .i64 o.f4.f1.f1, .string o.f4.f1.f2, .slice A8 o.f4.f1.f3.length c8, .slice A9 o.f4.f2.length c9, .slice A10 o.f5.length c10, .slice A11 o.f6.length c11, .int .i64 o.f7.f0, .slice A13 o.f7.f1.length c13]] w fun e w' => PlayPost base ob oR g gb gr mode back n (NN + partsO o) w e w' := by
  by_cases k1 : o.f0 = 1
  · exact plays28_took h hR hm hn hlo hbn hF hT hN o A8 c8 A9 c9 A10 c10 A11 c11 A13 c13 a8 l8 a9 l9 a10 l10 a11 l11 a13 l13 hpo k1
  by_cases k2 : o.f0 = 2
  · exact plays28_mark h hR hm hn hlo hbn hF hT hN o A8 c8 A9 c9 A10 c10 A11 c11 A13 c13 a8 l8 a9 l9 a10 l10 a11 l11 a13 l13 hpo k2
  by_cases k3 : o.f0 = 3
  · rcases hrd : r.ready with _ | _
    · exact plays28_part_no h hR hm hn hlo hbn hF hT hN o A8 c8 A9 c9 A10 c10 A11 c11 A13 c13 a8 l8 a9 l9 a10 l10 a11 l11 a13 l13 hpo k3 hrd
    · exact plays28_part_yes h hR hm hn hlo hbn hF hT hN o A8 c8 A9 c9 A10 c10 A11 c11 A13 c13 a8 l8 a9 l9 a10 l10 a11 l11 a13 l13 hpo k3 hrd
  by_cases k4 : o.f0 = 4
  · exact plays28_held h hR hm hn hlo hbn hF hT hN o A8 c8 A9 c9 A10 c10 A11 c11 A13 c13 a8 l8 a9 l9 a10 l10 a11 l11 a13 l13 hpo k4
  by_cases k5 : o.f0 = 5
  · exact plays28_now h hR hm hn hlo hbn hF hT hN o A8 c8 A9 c9 A10 c10 A11 c11 A13 c13 a8 l8 a9 l9 a10 l10 a11 l11 a13 l13 hpo k5
  exact plays28_none h hR hm hn hlo hbn hF hT hN o A8 c8 A9 c9 A10 c10 A11 c11 A13 c13 a8 l8 a9 l9 a10 l10 a11 l11 a13 l13 hpo k1 k2 k3 k4 k5

end
end Go.Proofs.Ytomfknblehkocaa.C
