/- may, number, moved. -/
import Derived.Test.YtcbaiplamaopeaaPL
namespace Go.Proofs.Ytcbaiplamaopeaa.PPostShots
open Go.RowKit Go.Conc Go.Proofs.YtcbaiplamaopeaaW.PrintWords Go.Proofs.YtcbaiplamaopeaaW.PrintLast Go.Proofs.Ytcbaiplamaopeaa.PPost
set_option linter.unusedVariables false
set_option linter.unusedSimpArgs false

set_option maxRecDepth 100000 in
set_option maxHeartbeats 4000000 in
theorem may44_same (a : Int) (w : World) : Calls Try.prog 44 #[.int .i64 a, .int .i64 a] w fun e w' => e = .returned (.bool true) ∧ w = w' := by
  have k1 : (a == a) = true := by simp
  go_enter Try.func44, Try.ntmps44
  go_wp2_with (fail)
  go_ret
  exact ⟨rfl, rfl⟩
set_option maxRecDepth 100000 in
set_option maxHeartbeats 4000000 in
theorem may44_01 (w : World) : Calls Try.prog 44 #[.int .i64 0, .int .i64 1] w fun e w' => e = .returned (.bool true) ∧ w = w' := by
  go_enter Try.func44, Try.ntmps44
  go_wp2_with (fail)
  go_ret
  exact ⟨rfl, rfl⟩
set_option maxRecDepth 100000 in
set_option maxHeartbeats 4000000 in
theorem may44_12 (w : World) : Calls Try.prog 44 #[.int .i64 1, .int .i64 2] w fun e w' => e = .returned (.bool true) ∧ w = w' := by
  go_enter Try.func44, Try.ntmps44
  go_wp2_with (fail)
  go_ret
  exact ⟨rfl, rfl⟩
set_option maxRecDepth 100000 in
set_option maxHeartbeats 4000000 in
theorem may44_14 (w : World) : Calls Try.prog 44 #[.int .i64 1, .int .i64 4] w fun e w' => e = .returned (.bool true) ∧ w = w' := by
  go_enter Try.func44, Try.ntmps44
  go_wp2_with (fail)
  go_ret
  exact ⟨rfl, rfl⟩
set_option maxRecDepth 100000 in
set_option maxHeartbeats 4000000 in
theorem may44_23 (w : World) : Calls Try.prog 44 #[.int .i64 2, .int .i64 3] w fun e w' => e = .returned (.bool true) ∧ w = w' := by
  go_enter Try.func44, Try.ntmps44
  go_wp2_with (fail)
  go_ret
  exact ⟨rfl, rfl⟩
set_option maxRecDepth 100000 in
set_option maxHeartbeats 4000000 in
theorem may44_24 (w : World) : Calls Try.prog 44 #[.int .i64 2, .int .i64 4] w fun e w' => e = .returned (.bool true) ∧ w = w' := by
  go_enter Try.func44, Try.ntmps44
  go_wp2_with (fail)
  go_ret
  exact ⟨rfl, rfl⟩
theorem may44 (a b : Int) (h : mayP a b) (w : World) : Calls Try.prog 44 #[.int .i64 a, .int .i64 b] w fun e w' => e = .returned (.bool true) ∧ w = w' := by
  rcases h with rfl | ⟨rfl, rfl⟩ | ⟨rfl, rfl | rfl⟩ | ⟨rfl, rfl | rfl⟩
  · exact may44_same a w
  · exact may44_01 w
  · exact may44_12 w
  · exact may44_14 w
  · exact may44_23 w
  · exact may44_24 w
/-- Which snapshot a step means. -/
def numOf (o : S57) (last : Int) : Int := if o.f2 = true then o.f3 else wrap64 (last + o.f3)
theorem numOf_wf {o : S57} {last : Int} (h : wfI o.f3) : wfI (numOf o last) := by
  unfold numOf
  by_cases h2 : o.f2 = true
  · rw [if_pos h2]; exact h
  · rw [if_neg h2]; exact wrap64_wf _
theorem number21 (o : S57) (last : Int) (A6 : Option Addr) (c6 : Nat) (A7 : Option Addr) (c7 : Nat) (A8 : Option Addr) (c8 : Nat) (w : World) (hC6 : Kd.C k103 w A6 o.f5.f0.f1.length o.f5.f0.f1) (hl6 : o.f5.f0.f1.length ≤ c6) (hC7 : Kd.C (Kd.slice 83 k83) w A7 o.f5.f1.length o.f5.f1) (hl7 : o.f5.f1.length ≤ c7) (hC8 : Kd.C k83 w A8 o.f5.f2.length o.f5.f2) (hl8 : o.f5.f2.length ≤ c8) :
    Calls Try.prog 21 #[.agg #[.int .i64 o.f0, .bool o.f1, .bool o.f2, .int .i64 o.f3, .int .i64 o.f4, .int .i64 o.f5.f0.f0, .slice A6 o.f5.f0.f1.length c6, .slice A7 o.f5.f1.length c7, .slice A8 o.f5.f2.length c8, .bool o.f6], .int .i64 last] w fun e w' => e = .returned (.int .i64 (numOf o last)) ∧ Hid (Below w.heap.size w w') := by
  refine (eddylaw14_number.calls o.f0 o.f1 o.f2 o.f3 o.f4 o.f5.f0.f0 A6 c6 o.f5.f0.f1 A7 c7 o.f5.f1 A8 c8 o.f5.f2 o.f6 last (numOf o last) w hC6 hl6 hC7 hl7 hC8 hl8 ?_).mono (fun e w' he => ⟨he.1, Lib.hid he.2⟩)
  unfold eddylaw14_number.f numOf
  by_cases h2 : o.f2 = true
  · rw [if_pos h2, if_pos h2]
  · rw [if_neg h2, if_neg h2]
/-- A row of whole numbers in blocks with the tag 2. -/
def RW (own : Nat → Nat) (w : World) (v : Value) (W : List Int) : Prop := (Kd.int .i64).R 3 w 0 (fun k => own k = 2) v W
theorem RW.upd {T : Nat → Prop} {own own' : Nat → Nat} {w w' : World} {v : Value} {W : List Int} (h : RW own w v W) (hS : ¬ T 2) (hu : Upd T own w own' w') : RW own' w' v W :=
  Kd.R_mono (Kd.R_step (Kd.R_bound h) (fun k hk hlt => hu.block k hlt (by rw [hk.1]; exact hS))) (fun k hk => (hu.same k hk.2.2.1 (by rw [hk.1]; exact hS)).trans hk.1)
theorem RW.nil (own : Nat → Nat) (w : World) : RW own w (.slice none 0 0) [] := Kd.R_nil _ _ _ _ _
theorem newW_succ (first : Int) (S : PS) (k : Nat) : newW first S (k + 1) = newW first S k ++ [S.f (first + (k : Nat))] := by simp [newW, List.range_succ]
theorem newW_set (first : Int) (S : PS) (W : List Int) (k : Nat) (h : k < W.length) : (newW first S k ++ W.drop k).set k (S.f (first + (k : Nat))) = newW first S (k + 1) ++ W.drop (k + 1) := by
  rw [List.set_append_right _ _ (by rw [newW_len]; exact Nat.le_refl _), newW_len, Nat.sub_self, List.drop_eq_getElem_cons h, List.set_cons_zero, newW_succ, List.append_assoc]
  rfl
theorem newW_at (first : Int) (S : PS) (W : List Int) (k : Nat) (h : k < W.length) : (newW first S k ++ W.drop k).getD k 0 = W.getD k 0 := by
  rw [List.getD_eq_getElem?_getD, List.getElem?_append_right (by rw [newW_len]; exact Nat.le_refl _), newW_len, Nat.sub_self, List.drop_eq_getElem_cons h]
  simp [h]
set_option maxRecDepth 100000 in
set_option maxHeartbeats 8000000 in
theorem moved24 (own : Nat → Nat) (w : World) (g : Nat) (S : PS) (bm c bw bp nm s r : Nat) (pps : List PP) (pbuf : List (Nat × PP)) (h : PostAt own w g 1 S bm c bw bp nm s r pps pbuf) (first : Int) (W : List Int) (v : Value) (hW : RW own w v W) (hmo : MO first S W) (f1 : 1 ≤ first) (f2 : first + (W.length : Int) ≤ 10000) :
    Calls Try.prog 24 #[.pointer (some ⟨g, 0, none⟩), .int .i64 first, v] w fun e w' => e = .returned (.bool true) ∧ ∃ own', Hid (PostAt own' w' g 1 S bm c bw bp nm s r pps pbuf) ∧ Hid (RW own' w' v (newW first S W.length)) ∧ Hid (Upd (fun t => t = 1 ∨ t = 2) own w own' w') := by
  obtain ⟨A, cc, rfl⟩ := Kd.R_slice hW
  obtain ⟨j, hj⟩ := hmo.ne
  obtain ⟨n, hn⟩ : ∃ n, n = W.length := ⟨_, rfl⟩
  obtain ⟨und, hun⟩ : ∃ und, und = S.under := ⟨_, rfl⟩
  have Hun := Lib.hid hun
  have HJ := Lib.hid hj
  have HMO := Lib.hid hmo
  have Hn := Lib.hid hn
  have HH := Lib.hid h
  have HW0 := Lib.hid hW
  rw [← hn] at f2 ⊢
  have HOP := Lib.hid (open17 own w g 1 S bm c bw bp nm s r pps pbuf h (by decide))
  rw [open1, ← hun] at HOP
  clear h hW hmo hj hn hun
  go_enter Try.func24, Try.ntmps24
  go_upto_region 2 with (go_at_call 17; refine HOP.out.mono ?_; rintro e w1 ⟨lv, rfl, hR, hB⟩
                         have HB1 := Lib.hid hB.out
                         clear hR hB)
  obtain ⟨own1, hown1⟩ : ∃ own1 : Nat → Nat, own1 = fresh own w 3 := ⟨_, rfl⟩
  have HP1 : Hid (PostAt own1 w1 g 1 S bm c bw bp nm s r pps pbuf) := Lib.hid (by rw [hown1]; exact HH.out.upd (T := fun _ => False) (fun e => e) (fun e => e) (Upd.of_below HB1.out 3))
  have HW1 : Hid (RW own1 w1 (.slice A n cc) W) := Lib.hid (by rw [hown1, Hn.out]; exact HW0.out.upd (T := fun _ => False) (fun e => e) (Upd.of_below HB1.out 3))
  have HU1 : Hid (Upd (fun t => t = 1 ∨ t = 2) own w own1 w1) := Lib.hid (by rw [hown1]; exact Upd.of_below HB1.out 3)
  clear HOP hown1 HH HW0 HB1
  go_wp2_with (fail)
  go_loopw [9, 10] (fun v9 v10 wr => ∃ (k : Nat) (ch : Int), k ≤ n ∧ v10 = .int .i64 k ∧ v9 = .int .i64 ch ∧ (0 ≤ ch ∧ ch ≤ 1) ∧ Hid (k ≤ j → ch = 0) ∧ Hid (PostAt own1 wr g 1 S bm c bw bp nm s r pps pbuf) ∧ Hid (RW own1 wr (.slice A n cc) (newW first S k ++ W.drop k)) ∧ Hid (Upd (fun t => t = 1 ∨ t = 2) own w own1 wr)) (fun _ v10 _ => n - (intOf v10).toNat)
  case atStart => exact ⟨0, 0, Nat.zero_le _, rfl, rfl, ⟨by omega, by omega⟩, Lib.hid (fun _ => rfl), HP1, HW1, HU1⟩
  case round =>
    clear HP1 HW1 HU1
    obtain ⟨k, ch, hk, rfl, rfl, ⟨hc0, hc1⟩, Hcj, HP, HR, HU⟩ := hrel
    have hlen : (newW first S k ++ W.drop k).length = n := by rw [List.length_append, newW_len, List.length_drop, ← Hn.out]; omega
    by_cases hlt : k < n
    · obtain ⟨gw, cap, hv, -, -, cells, hcells⟩ := Kd.R_form HR.out (by rw [hlen]; omega)
      rw [hlen] at hv
      obtain ⟨rfl, rfl⟩ : A = some ⟨gw, 0, none⟩ ∧ cc = cap := by injection hv with h1 h2 h3; exact ⟨h1, h3⟩
      have Hgw : Hid (own1 gw = 2) := Lib.hid (HR.out.1 gw rfl)
      obtain ⟨a0, z0⟩ := Kd.R_celln (0 : Int) HR.out (k : Int) (by omega) (by omega)
      rw [Int.toNat_natCast] at a0 z0
      have hrd : rdOf (0 : Int) (newW first S k ++ W.drop k) (k : Int) = W.getD k 0 := by
        show (newW first S k ++ W.drop k).getD (k : Int).toNat 0 = _
        rw [Int.toNat_natCast]
        exact newW_at first S W k (by rw [← Hn.out]; exact hlt)
      rw [hrd] at a0
      have HP2 := Lib.hid (HP.out.upd (T := (· = 2)) (by decide) (by decide) (set_own Hgw.out k (.int .i64 (S.f (first + (k : Nat))))))
      have HR2 : Hid (RW own1 (wr.setCell ⟨gw, k, none⟩ (.int .i64 (S.f (first + (k : Nat))))) (.slice (some ⟨gw, 0, none⟩) n cc) (newW first S (k + 1) ++ W.drop (k + 1))) := Lib.hid (by
        have h1 := Kd.R_putn HR.out (k : Int) (S.f (first + (k : Nat)))
        rw [Int.toNat_natCast, newW_set first S W k (by rw [← Hn.out]; exact hlt)] at h1
        exact h1)
      have HU2 : Hid (Upd (fun t => t = 1 ∨ t = 2) own w own1 (wr.setCell ⟨gw, k, none⟩ (.int .i64 (S.f (first + (k : Nat)))))) := Lib.hid (HU.out.then ((set_own Hgw.out k _).mono (fun _ h => .inr h)))
      have HST := Lib.hid (status14 own1 wr g 1 S bm c bw bp nm s r pps pbuf HP.out (by decide) (first + (k : Nat)) (wf_of (by omega) (by omega)))
      have HM := Lib.hid (may44 _ _ (HMO.out.may k (by rw [← Hn.out]; exact hlt)) wr)
      have hop := HMO.out.op k (by rw [← Hn.out]; exact hlt)
      rw [← Hun.out] at hop
      have hne := HJ.out k (by rw [← Hn.out]; exact hlt)
      generalize S.f (first + (k : Nat)) = y at *
      generalize W.getD k 0 = x at *
      have Hne := Lib.hid hne
      have hch : ∀ P : Prop, (y = x → P) → (y ≠ x → ch = 0 → P) → P := fun P p1 p2 => by
        by_cases hyx : y = x
        · exact p1 hyx
        · refine p2 hyx (Hcj.out ?_)
          have : k = j := by
            by_cases hkj : k = j
            · exact hkj
            · exact absurd (Hne.out hkj) hyx
          omega
      have Hch := Lib.hid hch
      have Hop := Lib.hid hop
      clear hlen hv hcells hrd hop hne hch
      cases hy1 : (y == 1) with
      | true =>
        have hu1 : (und == first + (k : Nat)) = true := by simp only [beq_iff_eq] at hy1 ⊢; exact Hop.out.1 hy1
        cases hyx : (y == x) with
        | true =>
          go_wp2_with (first
            | (go_at_call 14; refine HST.out.mono ?_; rintro e w2 ⟨rfl, rfl⟩)
            | (go_at_call 44; refine HM.out.mono ?_; rintro e w2 ⟨rfl, rfl⟩))
          go_roundw
          case rel => exact ⟨k + 1, ch, by omega, by go_num, rfl, ⟨hc0, hc1⟩, Lib.hid (fun h => Hcj.out (by omega)), HP2, HR2, HU2⟩
          case measure => simp [intOf]; omega
        | false =>
          have hc : ch = 0 := Hch.out (ch = 0) (fun h => by rw [h] at hyx; simp at hyx) (fun _ h => h)
          have hkj : Hid (k = j) := Lib.hid (by
            by_cases hkj : k = j
            · exact hkj
            · have := Hne.out hkj; rw [this] at hyx; simp at hyx)
          subst hc
          go_wp2_with (first
            | (go_at_call 14; refine HST.out.mono ?_; rintro e w2 ⟨rfl, rfl⟩)
            | (go_at_call 44; refine HM.out.mono ?_; rintro e w2 ⟨rfl, rfl⟩))
          go_roundw
          case rel => exact ⟨k + 1, 1, by omega, by go_num, rfl, ⟨by omega, by omega⟩, Lib.hid (fun h => by have := hkj.out; omega), HP2, HR2, HU2⟩
          case measure => simp [intOf]; omega
      | false =>
        have hu1 : (und == first + (k : Nat)) = false := by
          simp only [beq_eq_false_iff_ne] at hy1 ⊢
          exact fun h => hy1 (Hop.out.2 h)
        cases hyx : (y == x) with
        | true =>
          go_wp2_with (first
            | (go_at_call 14; refine HST.out.mono ?_; rintro e w2 ⟨rfl, rfl⟩)
            | (go_at_call 44; refine HM.out.mono ?_; rintro e w2 ⟨rfl, rfl⟩))
          go_roundw
          case rel => exact ⟨k + 1, ch, by omega, by go_num, rfl, ⟨hc0, hc1⟩, Lib.hid (fun h => Hcj.out (by omega)), HP2, HR2, HU2⟩
          case measure => simp [intOf]; omega
        | false =>
          have hc : ch = 0 := Hch.out (ch = 0) (fun h => by rw [h] at hyx; simp at hyx) (fun _ h => h)
          have hkj : Hid (k = j) := Lib.hid (by
            by_cases hkj : k = j
            · exact hkj
            · have := Hne.out hkj; rw [this] at hyx; simp at hyx)
          subst hc
          go_wp2_with (first
            | (go_at_call 14; refine HST.out.mono ?_; rintro e w2 ⟨rfl, rfl⟩)
            | (go_at_call 44; refine HM.out.mono ?_; rintro e w2 ⟨rfl, rfl⟩))
          go_roundw
          case rel => exact ⟨k + 1, 1, by omega, by go_num, rfl, ⟨by omega, by omega⟩, Lib.hid (fun h => by have := hkj.out; omega), HP2, HR2, HU2⟩
          case measure => simp [intOf]; omega
    · obtain rfl : k = n := by omega
      have k9 : decide (ch ≤ 1) = true := decide_eq_true hc1
      have HS1 := Lib.hid (status14 own1 wr g 1 S bm c bw bp nm s r pps pbuf HP.out (by decide) (first + (k : Nat)) (wf_of (by omega) (by omega)))
      rw [show S.f (first + (k : Nat)) = 0 by have := HMO.out.z1; rw [← Hn.out] at this; exact this] at HS1
      have HS0 := Lib.hid (status14 own1 wr g 1 S bm c bw bp nm s r pps pbuf HP.out (by decide) (first - 1) (wf_of (by omega) (by omega)))
      rw [HMO.out.z0] at HS0
      go_wp2_with (first
        | (go_at_call 14; refine HS1.out.mono ?_; rintro e w2 ⟨rfl, rfl⟩)
        | (go_at_call 14; refine HS0.out.mono ?_; rintro e w2 ⟨rfl, rfl⟩))
      go_ret
      refine ⟨rfl, own1, HP, Lib.hid ?_, HU⟩
      have h1 := HR.out
      rw [List.drop_of_length_le (by rw [Hn.out]; exact Nat.le_refl _), List.append_nil] at h1
      exact h1
end Go.Proofs.Ytcbaiplamaopeaa.PPostShots
