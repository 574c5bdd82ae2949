/- made, walked. -/
import Derived.Test.YtpplnhefpcofoaaWB
import Derived.Test.YtpplnhefpcofoaaPB
namespace Go.Proofs.Ytpplnhefpcofoaa.PDeltaJoin
open Go.RowKit Go.Proofs.YtpplnhefpcofoaaW.PrintWords Go.Proofs.YtpplnhefpcofoaaW.PrintLast
set_option linter.unusedVariables false
set_option linter.unusedSimpArgs false
theorem inC_drop {l : List S63} {k : ByteArray} {i : Nat} (h : i < l.length) : inC (l.drop i) k ↔ (l.getD i z63).f0 = k ∨ inC (l.drop (i + 1)) k := by
  rw [List.drop_eq_getElem_cons h]
  have e : l.getD i z63 = l[i] := by simp [List.getD_eq_getElem?_getD, List.getElem?_eq_getElem h]
  rw [e]
  unfold inC
  constructor
  · rintro ⟨c, hc, e⟩
    rcases List.mem_cons.1 hc with rfl | hc
    · exact .inl e
    · exact .inr ⟨c, hc, e⟩
  · rintro (e | ⟨c, hc, e⟩)
    · exact ⟨_, List.mem_cons_self, e⟩
    · exact ⟨c, List.mem_cons_of_mem _ hc, e⟩
set_option maxRecDepth 100000 in
set_option maxHeartbeats 8000000 in
theorem made27 (l : List S63) (key : ByteArray) (A : Option Addr) (c : Nat) (w0 w : World) (hA : Kd.C k63 w0 A l.length l) (hW : Below w0.heap.size w0 w) :
    Calls Try.prog 27 #[.slice A l.length c, .string key] w fun e w' => SaysB (eqB (inC l key)) w e w' := by
  obtain ⟨n, hn⟩ : ∃ n, n = l.length := ⟨_, rfl⟩
  have hnm : n ≤ 9223372036854775807 := by rw [hn]; exact Kd.C_max hA
  have HA := Lib.hid hA
  have HW := Lib.hid hW
  have Hn := Lib.hid hn
  obtain ⟨tot, ht⟩ : ∃ t, t = eqB (inC l key) := ⟨_, rfl⟩
  have HV0 : Hid (tot = eqB (inC (l.drop 0) key)) := Lib.hid (by rw [List.drop_zero]; exact ht)
  rw [← hn, ← ht]
  clear hA hW hn ht
  go_enter Try.func27, Try.ntmps27
  go_wp2_with (fail)
  go_loopw [5] (fun v5 wr => ∃ k : Nat, k ≤ n ∧ v5 = .int .i64 k ∧ Hid (tot = eqB (inC (l.drop k) key)) ∧ Hid (Below w.heap.size w wr)) (fun v5 _ => n - (intOf v5).toNat)
  case atStart => exact ⟨0, Nat.zero_le _, rfl, HV0, Lib.hid (Below.refl _ _)⟩
  case round =>
    obtain ⟨k, hk, rfl, HVk, HBk⟩ := hrel
    clear HV0
    by_cases hlt : k < n
    rotate_left
    · obtain rfl : n = k := by omega
      have HE : Hid (tot = false) := Lib.hid (by rw [HVk.out, List.drop_eq_nil_of_le (by rw [← Hn.out]; exact Nat.le_refl _)]; exact eqB_false (fun ⟨_, h, _⟩ => by cases h))
      go_wp2_with (fail)
      go_ret
      rw [HE.out]
      exact ⟨rfl, HBk⟩
    obtain ⟨ad, A3, c3, hA3, e0, e1, hl3, hC3⟩ := at_T63 HA.out (k : Int) (by omega) (by rw [← Hn.out]; omega)
    subst hA3
    have hd := inC_drop (l := l) (k := key) (i := k) (by rw [← Hn.out]; exact hlt)
    have hx1 : l.getD k z63 = rd_T63 l (k : Int) := by unfold rd_T63; rw [Int.toNat_natCast]
    rw [hx1] at hd
    clear hx1
    generalize rd_T63 l (k : Int) = u at *
    rw [Int.toNat_natCast] at e0 e1
    have HWk : Hid (Below w0.heap.size w0 wr) := HW.out.trans (HBk.out.mono HW.out.size)
    replace e0 := pw_cell_below HWk.out e0
    clear e1 hl3 hC3
    have HD := Lib.hid hd
    clear hd
    by_cases hu : u.f0 = key
    · have HE : Hid (tot = true) := Lib.hid (by rw [HVk.out]; exact eqB_true (HD.out.2 (.inl hu)))
      subst hu
      go_wp2_with (fail)
      go_ret
      rw [HE.out]
      exact ⟨rfl, HBk⟩
    · have HV2 : Hid (tot = eqB (inC (l.drop (k + 1)) key)) := Lib.hid (by rw [HVk.out]; exact eqB_iff ⟨fun h => (HD.out.1 h).resolve_left hu, fun h => HD.out.2 (.inr h)⟩)
      have k3 : ¬ u.f0.toList = key.toList := text_ne hu
      have k4 : (u.f0.toList == key.toList) = false := beq_eq_false_iff_ne.2 k3
      clear hu
      go_wp2_with (fail)
      go_roundw
      case rel => exact ⟨k + 1, by omega, by go_num, HV2, HBk⟩
      case measure => simp [intOf]; omega
end Go.Proofs.Ytpplnhefpcofoaa.PDeltaJoin
