/- New, walked. -/
import Derived.Test.YtomfknblehkocaaBP
namespace Go.Proofs.Ytomfknblehkocaa.C
open Go.RowKit Go.Proofs.YtomfknblehkocaaW.PrintWords Go.Proofs.YtomfknblehkocaaW.PrintLast
set_option linter.unusedVariables false
set_option linter.unusedSimpArgs false
/-- A new book. -/
def Bk.new (mode : Int) (n : Nat) (back : Int) : Bk := ⟨mode, back, 0, List.replicate n 0, List.replicate n [], false, false, ⟨0, []⟩, []⟩
def NewOk (mode : Int) (n : Nat) (back : Int) (w : World) (e : Ending) (w' : World) : Prop :=
  ∃ g own, e = .returned (.tuple #[.pointer (some ⟨g, 0, none⟩), .int .i64 0]) ∧ w.heap.size ≤ g ∧ BkI w' w.heap.size own g (Bk.new mode n back) ∧ Below w.heap.size w w'
def ownN (g p l : Nat) : Nat → Nat := fun k => if k = g then 1 else if k = p then 2 else if k = l then 3 else 0
theorem newOk {mode back : Int} {n : Nat} {w w2 : World} {p l : Nat} (hn : n ≤ 4) (hb : Below w.heap.size w w2) (hp : w.heap.size ≤ p) (hl : w.heap.size ≤ l) (hpl : p ≠ l)
    (h1 : w2.heap[p]? = some (.cells (List.replicate n (.int .i64 0)).toArray 3 (0, 0))) (h2 : w2.heap[l]? = some (.cells (List.replicate n (.slice none 0 0)).toArray 35 (0, 0))) :
    NewOk mode n back w (.returned (.tuple #[.pointer (some ⟨w2.heap.size, 0, none⟩), .int .i64 0])) (w2.alloc (.cells #[.int .i64 mode, .int .i64 back, .int .i64 0, .slice (some ⟨p, 0, none⟩) n n, .slice (some ⟨l, 0, none⟩) n n, .bool false, .bool false, .int .i64 0, .slice none 0 0, .slice none 0 0] 78)) := by
  have e1 := blk_lt h1
  have e2 := blk_lt h2
  refine ⟨w2.heap.size, ownN w2.heap.size p l, rfl, hb.size, ⟨p, l, .slice none 0 0, .slice none 0 0, List.replicate n (.slice none 0 0), ?_⟩, hb.alloc hb.size _⟩
  have hln : (Bk.new mode n back).ports.length = n := by unfold Bk.new; simp
  refine ⟨?_, ?_, blk_alloc h2 _, by rw [hln]; simp, by unfold Bk.new; simp, by rw [hln]; exact hn, fun i hi => R_nils _ _ _ _ _ _ _, Kd.R_nil _ _ _ _ _, Kd.R_nil _ _ _ _ _, ?_, ?_, ?_, ?_⟩
  · rw [hln]; exact blk_new w2 _
  · have := blk_alloc h1 (.cells #[.int .i64 mode, .int .i64 back, .int .i64 0, .slice (some ⟨p, 0, none⟩) n n, .slice (some ⟨l, 0, none⟩) n n, .bool false, .bool false, .int .i64 0, .slice none 0 0, .slice none 0 0] 78)
    unfold Bk.new
    simpa [nums] using this
  · unfold ownN; rw [if_pos rfl]
  · unfold ownN; rw [if_neg (by omega), if_pos rfl]
  · unfold ownN; rw [if_neg (by omega), if_neg (by omega), if_pos rfl]
  · intro k hk
    unfold ownN at hk
    simp only [World.size_alloc]
    by_cases h3 : k = w2.heap.size
    · have := hb.size; omega
    · rw [if_neg h3] at hk
      by_cases h4 : k = p
      · omega
      · rw [if_neg h4] at hk
        by_cases h5 : k = l
        · omega
        · rw [if_neg h5] at hk; exact absurd rfl hk
def newE (mode ports back : Int) : Int := if mode < 1 ∨ 3 < mode then 130 else if ports < 1 ∨ 4 < ports ∨ back < -1 ∨ ports ≤ back ∨ back = 0 ∧ ports = 1 then 131 else 0
def NewAns (mode ports back : Int) (w : World) (e : Ending) (w' : World) : Prop :=
  if newE mode ports back = 0 then NewOk mode ports.toNat back w e w' else e = .returned (.tuple #[.pointer none, .int .i64 (newE mode ports back)]) ∧ w = w'
set_option maxRecDepth 100000 in
set_option maxHeartbeats 4000000 in
theorem new14_m1 (mode ports back : Int) (w : World) (h0 : decide (mode < 1) = true) : Calls Try.prog 14 #[.int .i64 mode, .int .i64 ports, .int .i64 back] w fun e w' => e = .returned (.tuple #[.pointer none, .int .i64 130]) ∧ w = w' := by
  go_enter Try.func14, Try.ntmps14
  go_wp2
  go_ret2
  exact ⟨rfl, rfl⟩
set_option maxRecDepth 100000 in
set_option maxHeartbeats 4000000 in
theorem new14_m2 (mode ports back : Int) (w : World) (h0 : decide (mode < 1) = false) (h1 : decide (3 < mode) = true) : Calls Try.prog 14 #[.int .i64 mode, .int .i64 ports, .int .i64 back] w fun e w' => e = .returned (.tuple #[.pointer none, .int .i64 130]) ∧ w = w' := by
  go_enter Try.func14, Try.ntmps14
  go_wp2
  go_ret2
  exact ⟨rfl, rfl⟩
set_option maxRecDepth 100000 in
set_option maxHeartbeats 4000000 in
theorem new14_p0 (mode ports back : Int) (w : World) (h0 : decide (mode < 1) = false) (h1 : decide (3 < mode) = false) (h2 : decide (ports < 1) = true) : Calls Try.prog 14 #[.int .i64 mode, .int .i64 ports, .int .i64 back] w fun e w' => e = .returned (.tuple #[.pointer none, .int .i64 131]) ∧ w = w' := by
  go_enter Try.func14, Try.ntmps14
  go_wp2
  go_ret2
  exact ⟨rfl, rfl⟩
set_option maxRecDepth 100000 in
set_option maxHeartbeats 4000000 in
theorem new14_p1 (mode ports back : Int) (w : World) (h0 : decide (mode < 1) = false) (h1 : decide (3 < mode) = false) (h2 : decide (ports < 1) = false) (h3 : decide (4 < ports) = true) : Calls Try.prog 14 #[.int .i64 mode, .int .i64 ports, .int .i64 back] w fun e w' => e = .returned (.tuple #[.pointer none, .int .i64 131]) ∧ w = w' := by
  go_enter Try.func14, Try.ntmps14
  go_wp2
  go_ret2
  exact ⟨rfl, rfl⟩
set_option maxRecDepth 100000 in
set_option maxHeartbeats 4000000 in
theorem new14_p2 (mode ports back : Int) (w : World) (h0 : decide (mode < 1) = false) (h1 : decide (3 < mode) = false) (h2 : decide (ports < 1) = false) (h3 : decide (4 < ports) = false) (h4 : decide (back < -1) = true) : Calls Try.prog 14 #[.int .i64 mode, .int .i64 ports, .int .i64 back] w fun e w' => e = .returned (.tuple #[.pointer none, .int .i64 131]) ∧ w = w' := by
  go_enter Try.func14, Try.ntmps14
  go_wp2
  go_ret2
  exact ⟨rfl, rfl⟩
set_option maxRecDepth 100000 in
set_option maxHeartbeats 4000000 in
theorem new14_p3 (mode ports back : Int) (w : World) (h0 : decide (mode < 1) = false) (h1 : decide (3 < mode) = false) (h2 : decide (ports < 1) = false) (h3 : decide (4 < ports) = false) (h4 : decide (back < -1) = false) (h5 : decide (ports ≤ back) = true) : Calls Try.prog 14 #[.int .i64 mode, .int .i64 ports, .int .i64 back] w fun e w' => e = .returned (.tuple #[.pointer none, .int .i64 131]) ∧ w = w' := by
  go_enter Try.func14, Try.ntmps14
  go_wp2
  go_ret2
  exact ⟨rfl, rfl⟩
set_option maxRecDepth 100000 in
set_option maxHeartbeats 4000000 in
theorem new14_p4 (mode ports back : Int) (w : World) (h0 : decide (mode < 1) = false) (h1 : decide (3 < mode) = false) (h2 : decide (ports < 1) = false) (h3 : decide (4 < ports) = false) (h4 : decide (back < -1) = false) (h5 : decide (ports ≤ back) = false) (h6 : (back == 0) = true) (h7 : (ports == 1) = true) : Calls Try.prog 14 #[.int .i64 mode, .int .i64 ports, .int .i64 back] w fun e w' => e = .returned (.tuple #[.pointer none, .int .i64 131]) ∧ w = w' := by
  go_enter Try.func14, Try.ntmps14
  go_wp2
  go_ret2
  exact ⟨rfl, rfl⟩
set_option maxRecDepth 100000 in
set_option maxHeartbeats 4000000 in
theorem new14_ok1 (mode : Int) (n : Nat) (back : Int) (w : World) (hn : n ≤ 4) (h0 : decide (mode < 1) = false) (h1 : decide (3 < mode) = false) (h2 : decide ((n : Int) < 1) = false) (h3 : decide (4 < (n : Int)) = false) (h4 : decide (back < -1) = false) (h5 : decide ((n : Int) ≤ back) = false) (h6 : (back == 0) = false) : Calls Try.prog 14 #[.int .i64 mode, .int .i64 n, .int .i64 back] w fun e w' => NewOk mode n back w e w' := by
  have HF := Lib.hid (fresh33 n hn w)
  have Hn := Lib.hid hn
  go_enter Try.func14, Try.ntmps14
  go_wp2_with (first
    | (go_at_call 33; refine HF.out.mono ?_; rintro e w2 ⟨gp2, gl2, n1, m1, m2, rfl, hgp2, hgl2, hb2⟩
       have HB2 := Lib.hid hb2
       have Hgp2 := Lib.hid hgp2
       have Hgl2 := Lib.hid hgl2
       clear hgp2 hgl2 hb2))
  go_ret2
  exact newOk Hn.out HB2.out m1 m2 n1 Hgp2.out Hgl2.out
set_option maxRecDepth 100000 in
set_option maxHeartbeats 4000000 in
theorem new14_ok2 (mode : Int) (n : Nat) (back : Int) (w : World) (hn : n ≤ 4) (h0 : decide (mode < 1) = false) (h1 : decide (3 < mode) = false) (h2 : decide ((n : Int) < 1) = false) (h3 : decide (4 < (n : Int)) = false) (h4 : decide (back < -1) = false) (h5 : decide ((n : Int) ≤ back) = false) (h6 : (back == 0) = true) (h7 : ((n : Int) == 1) = false) : Calls Try.prog 14 #[.int .i64 mode, .int .i64 n, .int .i64 back] w fun e w' => NewOk mode n back w e w' := by
  have HF := Lib.hid (fresh33 n hn w)
  have Hn := Lib.hid hn
  go_enter Try.func14, Try.ntmps14
  go_wp2_with (first
    | (go_at_call 33; refine HF.out.mono ?_; rintro e w2 ⟨gp2, gl2, n1, m1, m2, rfl, hgp2, hgl2, hb2⟩
       have HB2 := Lib.hid hb2
       have Hgp2 := Lib.hid hgp2
       have Hgl2 := Lib.hid hgl2
       clear hgp2 hgl2 hb2))
  go_ret2
  exact newOk Hn.out HB2.out m1 m2 n1 Hgp2.out Hgl2.out
theorem new14_bad {mode ports back : Int} {w : World} {E : Int} (hE : newE mode ports back = E) (h0 : E ≠ 0) (h : Calls Try.prog 14 #[.int .i64 mode, .int .i64 ports, .int .i64 back] w fun e w' => e = .returned (.tuple #[.pointer none, .int .i64 E]) ∧ w = w') :
    Calls Try.prog 14 #[.int .i64 mode, .int .i64 ports, .int .i64 back] w fun e w' => NewAns mode ports back w e w' := by
  refine h.mono ?_
  intro e w' he
  unfold NewAns
  rw [if_neg (by rw [hE]; exact h0), hE]
  exact he
theorem new14 (mode ports back : Int) (w : World) : Calls Try.prog 14 #[.int .i64 mode, .int .i64 ports, .int .i64 back] w fun e w' => NewAns mode ports back w e w' := by
  by_cases a1 : mode < 1
  · exact new14_bad (E := 130) (by unfold newE; rw [if_pos (.inl a1)]) (by decide) (new14_m1 mode ports back w (by simpa using a1))
  by_cases a2 : 3 < mode
  · exact new14_bad (E := 130) (by unfold newE; rw [if_pos (.inr a2)]) (by decide) (new14_m2 mode ports back w (by simpa using a1) (by simpa using a2))
  have nm : ¬ (mode < 1 ∨ 3 < mode) := by omega
  by_cases b0 : ports < 1
  · exact new14_bad (E := 131) (by unfold newE; rw [if_neg nm, if_pos (by omega)]) (by decide) (new14_p0 mode ports back w (by simpa using a1) (by simpa using a2) (by simpa using b0))
  by_cases b1 : 4 < ports
  · exact new14_bad (E := 131) (by unfold newE; rw [if_neg nm, if_pos (by omega)]) (by decide) (new14_p1 mode ports back w (by simpa using a1) (by simpa using a2) (by simpa using b0) (by simpa using b1))
  by_cases b2 : back < -1
  · exact new14_bad (E := 131) (by unfold newE; rw [if_neg nm, if_pos (by omega)]) (by decide) (new14_p2 mode ports back w (by simpa using a1) (by simpa using a2) (by simpa using b0) (by simpa using b1) (by simpa using b2))
  by_cases b3 : ports ≤ back
  · exact new14_bad (E := 131) (by unfold newE; rw [if_neg nm, if_pos (by omega)]) (by decide) (new14_p3 mode ports back w (by simpa using a1) (by simpa using a2) (by simpa using b0) (by simpa using b1) (by simpa using b2) (by simpa using b3))
  by_cases b4 : back = 0 ∧ ports = 1
  · exact new14_bad (E := 131) (by unfold newE; rw [if_neg nm, if_pos (by omega)]) (by decide) (new14_p4 mode ports back w (by simpa using a1) (by simpa using a2) (by simpa using b0) (by simpa using b1) (by simpa using b2) (by simpa using b3) (by simpa using b4.1) (by simpa using b4.2))
  have hE : newE mode ports back = 0 := by unfold newE; rw [if_neg nm, if_neg (by omega)]
  obtain ⟨n, rfl⟩ : ∃ n : Nat, ports = n := ⟨ports.toNat, by omega⟩
  have fin : (Calls Try.prog 14 #[.int .i64 mode, .int .i64 n, .int .i64 back] w fun e w' => NewOk mode n back w e w') → Calls Try.prog 14 #[.int .i64 mode, .int .i64 n, .int .i64 back] w fun e w' => NewAns mode n back w e w' := fun h => by
    refine h.mono ?_
    intro e w' he
    unfold NewAns
    rw [if_pos hE, Int.toNat_natCast]
    exact he
  by_cases c : back = 0
  · exact fin (new14_ok2 mode n back w (by omega) (by simpa using a1) (by simpa using a2) (by simpa using b0) (by simpa using b1) (by simpa using b2) (by simpa using b3) (by simpa using c) (by simp only [beq_eq_false_iff_ne]; omega))
  · exact fin (new14_ok1 mode n back w (by omega) (by simpa using a1) (by simpa using a2) (by simpa using b0) (by simpa using b1) (by simpa using b2) (by simpa using b3) (by simpa using c))
end Go.Proofs.Ytomfknblehkocaa.C
