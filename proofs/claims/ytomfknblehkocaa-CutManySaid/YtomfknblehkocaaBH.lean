/- The book's readers: Held, shut. -/
import Derived.Test.YtomfknblehkocaaBK
namespace Go.Proofs.Ytomfknblehkocaa.C
open Go.RowKit Go.Proofs.YtomfknblehkocaaW.PrintWords Go.Proofs.YtomfknblehkocaaW.PrintLast
set_option linter.unusedVariables false
set_option linter.unusedSimpArgs false
section
variable {w : World} {base : Nat} {own : Nat → Nat} {g : Nat} {b : Bk} {gp gl : Nat} {vc vd : Value} {lv : List Value}
theorem Bk.knows_nat {b : Bk} {port : Int} (h : b.knows port = true) : ∃ p : Nat, port = p ∧ p < b.ports.length := by
  unfold Bk.knows at h
  simp at h
  exact ⟨port.toNat, by omega, by omega⟩
set_option maxRecDepth 100000 in
set_option maxHeartbeats 4000000 in
theorem held29 (h : BkAt w base own g b gp gl vc vd lv) (port : Int) : Calls Try.prog 29 #[.pointer (some ⟨g, 0, none⟩), .int .i64 port] w fun e w' => e = .returned (.bool (b.held port)) ∧ w = w' := by
  have HK := Lib.hid (known39 h port)
  by_cases hk : b.knows port
  · obtain ⟨p, rfl, hp⟩ := Bk.knows_nat hk
    rw [hk] at HK
    have h0 : w.cell? ⟨g, 0, none⟩ = some (.int .i64 b.mode) := blk_at h.hb 0 rfl
    have h2 : w.cell? ⟨g, 2, none⟩ = some (.int .i64 b.now) := blk_at h.hb 2 rfl
    have h3 : w.cell? ⟨g, 3, none⟩ = some (.slice (some ⟨gp, 0, none⟩) b.ports.length b.ports.length) := blk_at h.hb 3 rfl
    have h5 : w.cell? ⟨g, 5, none⟩ = some (.bool b.copied) := blk_at h.hb 5 rfl
    have hq := h.port p hp
    have hb : b.held (p : Int) = (b.mode == 1 && decide (0 < b.now) && !b.copied && b.ports.getD p 0 == 1) := by
      unfold Bk.held
      rw [hk]
      simp
    rw [hb]
    have HP := Lib.hid hp
    clear h hb hk
    generalize b.ports.getD p 0 = q at *
    by_cases m : b.mode = 1
    · have m' : (b.mode == 1) = true := by simp [m]
      have m'' : decide (b.mode = 1) = true := by simp [m]
      by_cases n : 0 < b.now
      · have n' : decide (0 < b.now) = true := by simp [n]
        cases hc : b.copied
        · rw [hc] at h5
          have Hc := Lib.hid hc
          clear hc
          go_enter Try.func29, Try.ntmps29
          go_wp2_with (first | (go_at_call 39; refine HK.out.mono ?_; rintro e w' ⟨rfl, rfl⟩))
          go_ret
          exact ⟨by rw [m', n']; rfl, rfl⟩
        · rw [hc] at h5
          clear hc
          go_enter Try.func29, Try.ntmps29
          go_wp2_with (first | (go_at_call 39; refine HK.out.mono ?_; rintro e w' ⟨rfl, rfl⟩))
          go_ret
          exact ⟨by simp, rfl⟩
      · have n' : decide (0 < b.now) = false := by simp [n]
        go_enter Try.func29, Try.ntmps29
        go_wp2_with (first | (go_at_call 39; refine HK.out.mono ?_; rintro e w' ⟨rfl, rfl⟩))
        go_ret
        exact ⟨by simp [n'], rfl⟩
    · have m' : (b.mode == 1) = false := by simp [m]
      have m'' : decide (b.mode = 1) = false := by simp [m]
      go_enter Try.func29, Try.ntmps29
      go_wp2_with (first | (go_at_call 39; refine HK.out.mono ?_; rintro e w' ⟨rfl, rfl⟩))
      go_ret
      exact ⟨by simp [m'], rfl⟩
  · have hk' : b.knows port = false := by simpa using hk
    rw [hk'] at HK
    have hb : b.held port = false := by unfold Bk.held; rw [hk']; rfl
    rw [hb]
    clear h hb hk hk'
    go_enter Try.func29, Try.ntmps29
    go_wp2_with (first | (go_at_call 39; refine HK.out.mono ?_; rintro e w' ⟨rfl, rfl⟩))
    go_ret
    exact ⟨rfl, rfl⟩
theorem Bk.shutB_true {b : Bk} {but : Int} (h : ∀ i, i < b.ports.length → b.ports.getD i 0 = 0 → (i : Int) = but) : b.shutB but = true := by
  unfold Bk.shutB
  rw [List.all_eq_true]
  intro i hi
  rw [List.mem_range] at hi
  by_cases h0 : b.ports.getD i 0 = 0
  · simp [h i hi h0]
  · have : (b.ports.getD i 0 == 0) = false := by simpa using h0
    rw [this]
    rfl
theorem Bk.shutB_false {b : Bk} {but : Int} (i : Nat) (hi : i < b.ports.length) (h0 : b.ports.getD i 0 = 0) (hn : (i : Int) ≠ but) : b.shutB but = false := by
  unfold Bk.shutB
  rw [List.all_eq_false]
  refine ⟨i, List.mem_range.2 hi, ?_⟩
  rw [h0]
  simp [hn]
set_option maxRecDepth 100000 in
set_option maxHeartbeats 4000000 in
theorem shut45 (h : BkAt w base own g b gp gl vc vd lv) (but : Int) : Calls Try.prog 45 #[.pointer (some ⟨g, 0, none⟩), .int .i64 but] w fun e w' => e = .returned (.bool (b.shutB but)) ∧ w = w' := by
  have H := Lib.hid h
  have h3 : w.cell? ⟨g, 3, none⟩ = some (.slice (some ⟨gp, 0, none⟩) b.ports.length b.ports.length) := blk_at h.hb 3 rfl
  have hn4 : b.ports.length ≤ 4 := h.lp
  clear h
  go_enter Try.func45, Try.ntmps45
  go_wp2
  go_loopw [13] (fun v13 wr => ∃ k : Nat, k ≤ b.ports.length ∧ v13 = .int .i64 k ∧ w = wr ∧ Hid (∀ i, i < k → b.ports.getD i 0 = 0 → (i : Int) = but)) (fun v13 _ => b.ports.length - (intOf v13).toNat)
  case atStart => exact ⟨0, Nat.zero_le _, by first | rfl | trivial, by first | rfl | trivial, fun i hi => by omega⟩
  case round =>
    obtain ⟨k, hk, rfl, rfl, HA⟩ := hrel
    by_cases hlt : k < b.ports.length
    · have hq := H.out.port k hlt
      by_cases h0 : b.ports.getD k 0 = 0
      · rw [h0] at hq
        have H0 := Lib.hid h0
        clear h0
        by_cases hb : (k : Int) = but
        · subst hb
          go_wp2
          go_roundw
          case rel =>
            refine ⟨k + 1, by omega, by go_num, by first | rfl | trivial, fun i hi h => ?_⟩
            rcases Nat.lt_succ_iff_lt_or_eq.1 hi with hi | rfl
            · exact HA.out i hi h
            · rfl
          case measure => simp [intOf]; omega
        · have hb' : ((k : Int) != but) = true := by simp [hb]
          go_wp2
          go_ret
          exact ⟨by rw [Bk.shutB_false k hlt H0.out hb]; rfl, rfl⟩
      · have h0' : (b.ports.getD k 0 == 0) = false := beq_false_of_ne h0
        have H0 := Lib.hid h0
        clear h0
        generalize b.ports.getD k 0 = q at hq h0'
        go_wp2
        go_roundw
        case rel =>
          refine ⟨k + 1, by omega, by go_num, by first | rfl | trivial, fun i hi h => ?_⟩
          rcases Nat.lt_succ_iff_lt_or_eq.1 hi with hi | rfl
          · exact HA.out i hi h
          · exact absurd h H0.out
        case measure => simp [intOf]; omega
    · obtain rfl : k = b.ports.length := by omega
      go_wp2
      go_ret
      exact ⟨by rw [Bk.shutB_true HA.out]; rfl, rfl⟩
end
end Go.Proofs.Ytomfknblehkocaa.C
