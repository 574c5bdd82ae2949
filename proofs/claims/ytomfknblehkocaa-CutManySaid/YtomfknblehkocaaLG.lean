/- legal, num, known: the view laws' beginning. -/
import Derived.Test.YtomfknblehkocaaBQ
namespace Go.Proofs.Ytomfknblehkocaa.C
open Go.RowKit Go.Proofs.YtomfknblehkocaaW.PrintWords Go.Proofs.YtomfknblehkocaaW.PrintLast
set_option linter.unusedVariables false
set_option linter.unusedSimpArgs false
set_option maxRecDepth 100000 in
set_option maxHeartbeats 4000000 in
theorem legal13_n0 (mode ports back : Int) (w : World) (h0 : decide (1 ≤ mode) = false) : Calls Try.prog 13 #[.int .i64 mode, .int .i64 ports, .int .i64 back] w fun e w' => e = .returned (.bool false) ∧ w = w' := by
  go_enter Try.func13, Try.ntmps13
  go_wp2
  go_ret
  exact ⟨rfl, rfl⟩
set_option maxRecDepth 100000 in
set_option maxHeartbeats 4000000 in
theorem legal13_n1 (mode ports back : Int) (w : World) (h0 : decide (1 ≤ mode) = true) (h1 : decide (mode ≤ 3) = false) : Calls Try.prog 13 #[.int .i64 mode, .int .i64 ports, .int .i64 back] w fun e w' => e = .returned (.bool false) ∧ w = w' := by
  go_enter Try.func13, Try.ntmps13
  go_wp2
  go_ret
  exact ⟨rfl, rfl⟩
set_option maxRecDepth 100000 in
set_option maxHeartbeats 4000000 in
theorem legal13_n2 (mode ports back : Int) (w : World) (h0 : decide (1 ≤ mode) = true) (h1 : decide (mode ≤ 3) = true) (h2 : decide (1 ≤ ports) = false) : Calls Try.prog 13 #[.int .i64 mode, .int .i64 ports, .int .i64 back] w fun e w' => e = .returned (.bool false) ∧ w = w' := by
  go_enter Try.func13, Try.ntmps13
  go_wp2
  go_ret
  exact ⟨rfl, rfl⟩
set_option maxRecDepth 100000 in
set_option maxHeartbeats 4000000 in
theorem legal13_n3 (mode ports back : Int) (w : World) (h0 : decide (1 ≤ mode) = true) (h1 : decide (mode ≤ 3) = true) (h2 : decide (1 ≤ ports) = true) (h3 : decide (ports ≤ 4) = false) : Calls Try.prog 13 #[.int .i64 mode, .int .i64 ports, .int .i64 back] w fun e w' => e = .returned (.bool false) ∧ w = w' := by
  go_enter Try.func13, Try.ntmps13
  go_wp2
  go_ret
  exact ⟨rfl, rfl⟩
set_option maxRecDepth 100000 in
set_option maxHeartbeats 4000000 in
theorem legal13_n4 (mode ports back : Int) (w : World) (h0 : decide (1 ≤ mode) = true) (h1 : decide (mode ≤ 3) = true) (h2 : decide (1 ≤ ports) = true) (h3 : decide (ports ≤ 4) = true) (h4 : decide (-1 ≤ back) = false) : Calls Try.prog 13 #[.int .i64 mode, .int .i64 ports, .int .i64 back] w fun e w' => e = .returned (.bool false) ∧ w = w' := by
  go_enter Try.func13, Try.ntmps13
  go_wp2
  go_ret
  exact ⟨rfl, rfl⟩
set_option maxRecDepth 100000 in
set_option maxHeartbeats 4000000 in
theorem legal13_n5 (mode ports back : Int) (w : World) (h0 : decide (1 ≤ mode) = true) (h1 : decide (mode ≤ 3) = true) (h2 : decide (1 ≤ ports) = true) (h3 : decide (ports ≤ 4) = true) (h4 : decide (-1 ≤ back) = true) (h5 : decide (back < ports) = false) : Calls Try.prog 13 #[.int .i64 mode, .int .i64 ports, .int .i64 back] w fun e w' => e = .returned (.bool false) ∧ w = w' := by
  go_enter Try.func13, Try.ntmps13
  go_wp2
  go_ret
  exact ⟨rfl, rfl⟩
set_option maxRecDepth 100000 in
set_option maxHeartbeats 4000000 in
theorem legal13_n6 (mode ports back : Int) (w : World) (h0 : decide (1 ≤ mode) = true) (h1 : decide (mode ≤ 3) = true) (h2 : decide (1 ≤ ports) = true) (h3 : decide (ports ≤ 4) = true) (h4 : decide (-1 ≤ back) = true) (h5 : decide (back < ports) = true) (h6 : decide (1 < ports) = false) (h7 : (back != 0) = false) : Calls Try.prog 13 #[.int .i64 mode, .int .i64 ports, .int .i64 back] w fun e w' => e = .returned (.bool false) ∧ w = w' := by
  go_enter Try.func13, Try.ntmps13
  go_wp2
  go_ret
  exact ⟨rfl, rfl⟩
set_option maxRecDepth 100000 in
set_option maxHeartbeats 4000000 in
theorem legal13_y0 (mode ports back : Int) (w : World) (h0 : decide (1 ≤ mode) = true) (h1 : decide (mode ≤ 3) = true) (h2 : decide (1 ≤ ports) = true) (h3 : decide (ports ≤ 4) = true) (h4 : decide (-1 ≤ back) = true) (h5 : decide (back < ports) = true) (h6 : decide (1 < ports) = true) : Calls Try.prog 13 #[.int .i64 mode, .int .i64 ports, .int .i64 back] w fun e w' => e = .returned (.bool true) ∧ w = w' := by
  go_enter Try.func13, Try.ntmps13
  go_wp2
  go_ret
  exact ⟨rfl, rfl⟩
set_option maxRecDepth 100000 in
set_option maxHeartbeats 4000000 in
theorem legal13_y1 (mode ports back : Int) (w : World) (h0 : decide (1 ≤ mode) = true) (h1 : decide (mode ≤ 3) = true) (h2 : decide (1 ≤ ports) = true) (h3 : decide (ports ≤ 4) = true) (h4 : decide (-1 ≤ back) = true) (h5 : decide (back < ports) = true) (h6 : decide (1 < ports) = false) (h7 : (back != 0) = true) : Calls Try.prog 13 #[.int .i64 mode, .int .i64 ports, .int .i64 back] w fun e w' => e = .returned (.bool true) ∧ w = w' := by
  go_enter Try.func13, Try.ntmps13
  go_wp2
  go_ret
  exact ⟨rfl, rfl⟩
theorem legal13 (mode ports back : Int) (w : World) : Calls Try.prog 13 #[.int .i64 mode, .int .i64 ports, .int .i64 back] w fun e w' => e = .returned (.bool (newE mode ports back == 0)) ∧ w = w' := by
  by_cases a0 : 1 ≤ mode
  rotate_left
  · have e : (newE mode ports back == 0) = false := by unfold newE; rw [if_pos (by omega)]; rfl
    rw [e]
    exact legal13_n0 mode ports back w  (by simpa using a0)
  by_cases a1 : mode ≤ 3
  rotate_left
  · have e : (newE mode ports back == 0) = false := by unfold newE; rw [if_pos (by omega)]; rfl
    rw [e]
    exact legal13_n1 mode ports back w (by simpa using a0) (by simpa using a1)
  by_cases a2 : 1 ≤ ports
  rotate_left
  · have e : (newE mode ports back == 0) = false := by unfold newE; rw [if_neg (by omega), if_pos (by omega)]; rfl
    rw [e]
    exact legal13_n2 mode ports back w (by simpa using a0) (by simpa using a1) (by simpa using a2)
  by_cases a3 : ports ≤ 4
  rotate_left
  · have e : (newE mode ports back == 0) = false := by unfold newE; rw [if_neg (by omega), if_pos (by omega)]; rfl
    rw [e]
    exact legal13_n3 mode ports back w (by simpa using a0) (by simpa using a1) (by simpa using a2) (by simpa using a3)
  by_cases a4 : -1 ≤ back
  rotate_left
  · have e : (newE mode ports back == 0) = false := by unfold newE; rw [if_neg (by omega), if_pos (by omega)]; rfl
    rw [e]
    exact legal13_n4 mode ports back w (by simpa using a0) (by simpa using a1) (by simpa using a2) (by simpa using a3) (by simpa using a4)
  by_cases a5 : back < ports
  rotate_left
  · have e : (newE mode ports back == 0) = false := by unfold newE; rw [if_neg (by omega), if_pos (by omega)]; rfl
    rw [e]
    exact legal13_n5 mode ports back w (by simpa using a0) (by simpa using a1) (by simpa using a2) (by simpa using a3) (by simpa using a4) (by simpa using a5)
  by_cases b1 : 1 < ports
  · have e : (newE mode ports back == 0) = true := by unfold newE; rw [if_neg (by omega), if_neg (by omega)]; rfl
    rw [e]
    exact legal13_y0 mode ports back w (by simpa using a0) (by simpa using a1) (by simpa using a2) (by simpa using a3) (by simpa using a4) (by simpa using a5) (by simpa using b1)
  · by_cases b2 : back = 0
    · have e : (newE mode ports back == 0) = false := by unfold newE; rw [if_neg (by omega), if_pos (by omega)]; rfl
      rw [e]
      exact legal13_n6 mode ports back w (by simpa using a0) (by simpa using a1) (by simpa using a2) (by simpa using a3) (by simpa using a4) (by simpa using a5) (by simpa using b1) (by simp [b2])
    · have e : (newE mode ports back == 0) = true := by unfold newE; rw [if_neg (by omega), if_neg (by omega)]; rfl
      rw [e]
      exact legal13_y1 mode ports back w (by simpa using a0) (by simpa using a1) (by simpa using a2) (by simpa using a3) (by simpa using a4) (by simpa using a5) (by simpa using b1) (by simp [b2])
theorem num15 (n : Int) (w : World) : Calls Try.prog 15 #[.int .i64 n] w fun e w' => e = .returned (.int .i64 n) ∧ w = w' := by
  go_enter Try.func15, Try.ntmps15
  go_wp2
  go_ret
  exact ⟨rfl, rfl⟩
section
variable {w : World} {base : Nat} {own : Nat → Nat}
theorem Away.nil {α : Type} (d : Kd α) (own : Nat → Nat) (w : World) : Away d own w none ([] : List α) := fun _ W' _ => Kd.C_nil d W'
theorem Away.of_R {α : Type} {d : Kd α} {e n c : Nat} {S : Nat → Prop} {A : Option Addr} {xs : List α} (h : d.R e w base S (.slice A n c) xs) (hS : ∀ k, S k → k < w.heap.size → own k = 0) : Away d own w A xs := fun _ W' u =>
  (Kd.R_reads' (Kd.R_step h (fun k hk hlt => u.block k hlt (hS k hk hlt)))).2.2
theorem Away.of_C {α : Type} {d : Kd α} {w0 : World} {A : Option Addr} {xs : List α} (h : Kd.C d w0 A xs.length xs) (hb : Below w0.heap.size w0 w) (ho : ∀ k, own k ≠ 0 → w0.heap.size ≤ k) : Away d own w A xs := fun _ W' u =>
  Kd.C_below h (hb.trans (u.below hb.size (fun k hk => by have := ho k; omega)))
/-- The record that 'known' hands over. -/
def knownR : S45 := ⟨⟨#[112]⟩, ⟨0, 0, ⟨#[]⟩, []⟩, []⟩
theorem knownR_row (w : World) (base : Nat) (hb : base ≤ w.heap.size) : Kd.R k45 45 (w.alloc (.cells #[.string ⟨#[112]⟩, .int .i64 0, .int .i64 0, .string ⟨#[]⟩, .slice none 0 0, .slice none 0 0] 45)) base (fun k => w.heap.size ≤ k) (.slice (some ⟨w.heap.size, 0, none⟩) 1 1) [knownR] := by
  have hm : k45.M (w.alloc (.cells #[.string ⟨#[112]⟩, .int .i64 0, .int .i64 0, .string ⟨#[]⟩, .slice none 0 0, .slice none 0 0] 45)) base (fun k => w.heap.size ≤ k ∧ some k ≠ (Value.slice (some ⟨w.heap.size, 0, none⟩) 1 1).ownBlock) knownR [.string ⟨#[112]⟩, .int .i64 0, .int .i64 0, .string ⟨#[]⟩, .slice none 0 0, .slice none 0 0] := k45_mkM _ _ _ knownR (Kd.R_nil _ _ _ _ _) (Kd.R_nil _ _ _ _ _)
  have hr : Reps (k45.M (w.alloc (.cells #[.string ⟨#[112]⟩, .int .i64 0, .int .i64 0, .string ⟨#[]⟩, .slice none 0 0, .slice none 0 0] 45)) base (fun k => w.heap.size ≤ k ∧ some k ≠ (Value.slice (some ⟨w.heap.size, 0, none⟩) 1 1).ownBlock)) k45.sz [knownR] [.string ⟨#[112]⟩, .int .i64 0, .int .i64 0, .string ⟨#[]⟩, .slice none 0 0, .slice none 0 0] := by
    have := Reps.snoc (Reps.none _ k45.sz) hm rfl
    exact this
  refine ⟨fun k hk => ?_, OwnRow.lit w base hr hb (by simp)⟩
  have : w.heap.size = k := by simpa [Value.ownBlock] using hk
  exact Nat.le_of_eq this
theorem known_free {g gp gl : Nat} {b : Bk} {vc vd : Value} {lv : List Value} (h : BkAt w base own g b gp gl vc vd lv) {k : Nat} (hk : w.heap.size ≤ k) : own k = 0 := by
  rcases Nat.eq_zero_or_pos (own k) with h0 | h0
  · exact h0
  · have := (h.lo k (by omega)).2
    omega
theorem knownR_parts : partsRs [knownR] ≤ 100000 := by
  unfold partsRs partsR partsV knownR
  simp
theorem new_logs (mode : Int) (n : Nat) (back : Int) (i : Nat) : (Bk.new mode n back).logs.getD i [] = [] := by
  unfold Bk.new
  rw [List.getD_eq_getElem?_getD, List.getElem?_replicate]
  split <;> rfl
/-- What 'known' marks. -/
def knownB (mode : Int) : Bk := (Bk.new mode 1 (-1)).mark 0 3 [] ⟨8, []⟩ [knownR]
theorem known_facts (mode : Int) (hm : mode = 1 ∨ mode = 2 ∨ mode = 3) : (Bk.new mode 1 (-1)).markE 0 3 = 0 ∧ (Bk.new mode 1 (-1)).markC 0 3 [] ⟨8, []⟩ [knownR] = true ∧ (knownB mode).ready = true ∧ (knownB mode).now = 3 ∧ (knownB mode).st = ⟨8, []⟩ ∧ (knownB mode).pend.length = 1 ∧ (knownB mode).logs.length = 1 ∧ (knownB mode).handed.ready = false := by
  rcases hm with rfl | rfl | rfl <;> exact ⟨rfl, rfl, rfl, rfl, rfl, rfl, rfl, rfl⟩
set_option maxRecDepth 100000 in
set_option maxHeartbeats 4000000 in
theorem known16 (mode : Int) (hm : mode = 1 ∨ mode = 2 ∨ mode = 3) (w : World) : Calls Try.prog 16 #[.int .i64 mode] w fun e w' => e = .returned (.bool true) ∧ Below w.heap.size w w' := by
  have hE : newE mode 1 (-1) = 0 := by rcases hm with rfl | rfl | rfl <;> rfl
  have HE := Lib.hid hE
  have HM := Lib.hid hm
  have HF := Lib.hid (known_facts mode hm)
  clear hm hE
  go_enter Try.func16, Try.ntmps16
  go_wp2_with (first
    | (go_at_call 14; refine (new14 mode 1 (-1) w).mono ?_; intro e w1 ha
       have HA : Hid (NewOk mode 1 (-1) w e w1) := (by unfold NewAns at ha; rw [if_pos HE.out] at ha; exact ha)
       clear ha
       obtain ⟨g, own, rfl, hg, hb1, hB⟩ := HA.out
       have H1 := Lib.hid hb1
       have HB1 := Lib.hid hB
       clear HA hb1 hB)
    | (go_at_call 15; refine (num15 _ _).mono ?_; rintro e w' ⟨rfl, rfl⟩)
    | (go_at_call 20
       have ⟨gp1, gl1, vc1, vd1, lv1, h1⟩ := H1.out
       have h1' : BkAt (w1.alloc (.cells #[.string ⟨#[112]⟩, .int .i64 0, .int .i64 0, .string ⟨#[]⟩, .slice none 0 0, .slice none 0 0] 45)) w.heap.size own g (Bk.new mode 1 (-1)) gp1 gl1 vc1 vd1 lv1 := h1.below ((Below.refl _ _).alloc (Nat.le_refl _) _)
       refine (mark20 h1' (by simp only [World.size_alloc]; have := HB1.out.size; omega) 0 3 [] none 0 (Away.nil _ _ _) (Nat.le_refl _) (by decide) ⟨8, []⟩ none 0 (Away.nil _ _ _) (Nat.le_refl _) (by decide) [knownR] (some ⟨w1.heap.size, 0, none⟩) 1
         (Away.of_R (knownR_row w1 w.heap.size HB1.out.size) (fun k hk _ => known_free h1 hk)) (Nat.le_refl _) knownR_parts (fun i => by rw [new_logs]; simp) HM.out).mono ?_
       intro e w2 hq
       have he := hq.1
       rw [HF.out.1, HF.out.2.1] at he
       subst he
       obtain ⟨own2, ⟨gp2, gl2, vc2, vd2, lv2, h2⟩, u2⟩ := hq.2
       have H2 : Hid (BkAt w2 w.heap.size own2 g (knownB mode) gp2 gl2 vc2 vd2 lv2) := h2
       have HB2 : Hid (Below w.heap.size w w2) := (HB1.out.alloc HB1.out.size _).trans (u2.below (by simp only [World.size_alloc]; have := HB1.out.size; omega) (fun k hk => by have := h1.lo k; omega))
       clear hq h2 u2 h1 h1' H1)
    | (go_at_call 22; refine (part22 H2.out).mono ?_
       intro e w3 hq
       have hp : Hid (∃ own' v, e = .returned (.tuple #[.int .i64 (knownB mode).now, v, .bool true]) ∧ BkI w3 w.heap.size own' g (knownB mode).handed ∧ Upd own2 w2 own' w3 ∧ PartOut (fun k => own2 k ≠ 0 ∧ own' k = 0) w3 w.heap.size v (knownB mode).st (knownB mode).logs (knownB mode).pend) := by
         unfold PartAns at hq
         rw [if_pos HF.out.2.2.1] at hq
         exact hq
       clear hq
       obtain ⟨own3, v, he, ⟨gp3, gl3, vc3, vd3, lv3, h3⟩, u3, vc, gl, vd, lv, hv, hvc, hvd, _⟩ := hp.out
       obtain ⟨Ac, cc, ec⟩ := Kd.R_slice hvc
       obtain ⟨Ad, cd, ed⟩ := Kd.R_slice hvd
       rw [HF.out.2.2.2.2.1] at ec
       rw [HF.out.2.2.2.2.2.1] at ed
       rw [ec, ed, HF.out.2.2.2.2.1, HF.out.2.2.2.2.2.2.1] at hv
       rw [hv, HF.out.2.2.2.1] at he
       subst he
       have H3 := Lib.hid h3
       have HB3 : Hid (Below w.heap.size w w3) := HB2.out.trans (u3.below HB2.out.size (fun k hk => by have := H2.out.lo k; omega))
       clear hp h3 u3 hv hvc hvd ec ed H2)
    | (go_at_call 22; refine (part22 (H3.out.below (below_alloc (Below.refl _ _) _))).mono ?_
       intro e w4 hq
       have hp := hq
       unfold PartAns at hp
       rw [if_neg (by rw [HF.out.2.2.2.2.2.2.2]; simp)] at hp
       obtain ⟨he, own4, ⟨gp4, gl4, vc4, vd4, lv4, h4⟩, u4⟩ := hp
       subst he
       have H4 := Lib.hid h4
       have HB4 : Hid (Below w.heap.size w w4) := (HB3.out.alloc HB3.out.size _).trans (u4.below (by simp only [World.size_alloc]; have := HB3.out.size; omega) (fun k hk => by have := H3.out.lo k; omega))
       clear hq h4 u4 H3)
    | (go_at_call 25; refine (now25 (H4.out.below (below_alloc (Below.refl _ _) _))).mono ?_; intro e w5 hq
       obtain ⟨he, rfl⟩ := hq
       have hn : (knownB mode).handed.now = 3 := HF.out.2.2.2.1
       rw [hn] at he
       subst he
       clear hn))
  go_ret
  exact ⟨rfl, HB4.out.alloc HB4.out.size _⟩
end
end Go.Proofs.Ytomfknblehkocaa.C
