/- What a test answers. -/
import Derived.Test.YtpplnhefpcofoaaZSZ
import Derived.Test.YtpplnhefpcofoaaZT
namespace Go.Proofs.Ytpplnhefpcofoaa.PDeltaJoin
open Go.RowKit Go.Proofs.YtpplnhefpcofoaaW.PrintWords Go.Proofs.YtpplnhefpcofoaaW.PrintLast
set_option linter.unusedVariables false
set_option linter.unusedSimpArgs false
theorem lit_C {α : Type} (d : Kd α) {W : World} {b : Nat} {t : TypeId} {xs : List α} {inner : List Value} (hr : Reps (d.K W) d.sz xs inner) (hb : W.heap[b]? = some (.cells inner.toArray t (0, 0))) (hm : xs.length ≤ 9223372036854775807) : d.C W (some ⟨b, 0, none⟩) xs.length xs :=
  ⟨rfl, hm, fun _ => ⟨_, rfl, fun j p hj => by
    have hp := hr.2 j p hj
    refine ⟨_, d.K_len hp, hp, fun i u hu => ?_⟩
    have hu2 : inner[j * d.sz + i]? = some u := by
      rw [List.getElem?_take] at hu
      split at hu
      · rw [List.getElem?_drop] at hu; exact hu
      · cases hu
    have e : (⟨b, 0, none⟩ : Addr).add (j * d.sz + i) = ⟨b, j * d.sz + i, none⟩ := by simp [Addr.add]; intro h1 h2; rw [h1, h2]
    rw [e]
    exact blk_at hb _ (by simpa using hu2)⟩⟩
theorem ok30 (g : Nat) (a : Int) (w : World) (h : CntAt w g a) : Calls Try.prog 30 #[.pointer (some ⟨g, 0, none⟩)] w fun e w' => e = .returned (.bool (decide (0 ≤ a))) ∧ w = w' := by
  by_cases ha : 0 ≤ a
  · rw [decide_eq_true ha]; exact ok_yes g a w h ha
  · rw [decide_eq_false ha]; exact ok_no g a w h (by omega)
def partsT (x : S24) : Nat := partsC x.f1
set_option maxRecDepth 100000 in
set_option maxHeartbeats 8000000 in
theorem states10 (l : List S24) (A : Option Addr) (c : Nat) (w : World) (hC : Kd.C k24 w A l.length l) :
    Calls Try.prog 10 #[.slice A l.length c] w fun e w' => ∃ b, e = .returned (.bool b) ∧ (b = true → (l.map partsT).sum ≤ 10000) ∧ Hid (Below w.heap.size w w') := by
  obtain ⟨n, hn⟩ : ∃ n, n = l.length := ⟨_, rfl⟩
  have Hn := Lib.hid hn
  have HC := Lib.hid hC
  have hmax : n ≤ 9223372036854775807 := by rw [hn]; exact Kd.C_max hC
  have HN := Lib.hid (blk_new w (.cells #[.int .i64 10000] 89))
  have HO0 : Hid (Below w.heap.size w (w.alloc (.cells #[.int .i64 10000] 89))) := (Below.refl _ _).alloc (Nat.le_refl _) _
  rw [← hn]
  clear hC hn
  go_enter Try.func10, Try.ntmps10
  go_wp2_with (go_at_call 29; refine (new29 _).mono ?_; rintro e w1 ⟨rfl, rfl⟩)
  generalize w.alloc (.cells #[.int .i64 10000] 89) = wa at *
  obtain ⟨g, hg⟩ : ∃ g, g = w.heap.size := ⟨_, rfl⟩
  rw [← hg] at HN ⊢
  have HG := Lib.hid hg
  clear hg
  go_loopw [4] (fun v4 wr => ∃ k : Nat, k ≤ n ∧ v4 = .int .i64 k ∧ ∃ b, Hid (CntAt wr g b) ∧ Hid (Below w.heap.size w wr) ∧ Hid (-9223372036854775807 ≤ b ∧ b ≤ 10000 ∧ (0 ≤ b → b = 10000 - (((l.take k).map partsT).sum : Nat)))) (fun v4 _ => n - (intOf v4).toNat)
  case atStart =>
    exact ⟨0, Nat.zero_le _, rfl, 10000, HN, HO0, by decide, by decide, fun h => by simp⟩
  case round =>
    obtain ⟨k, hk, rfl, b, HA, HO, HR⟩ := hrel
    clear HN HO0
    by_cases hlt : k < n
    · by_cases hb : 0 ≤ b
      · have HOK := Lib.hid (ok_yes g b wr HA.out hb)
        have hsum := sum_take_succ partsT l z24 k (by rw [← Hn.out]; exact hlt)
        have hrd : rd_T24 l (k : Int) = l.getD k z24 := by unfold rd_T24; rw [Int.toNat_natCast]
        rw [← hrd] at hsum
        clear hrd
        obtain ⟨ad, A1, c1, rfl, e0, e1, hl1, hC1⟩ := at_T24 HC.out (k : Int) (by omega) (by rw [← Hn.out]; omega)
        rw [Int.toNat_natCast] at e0 e1
        generalize rd_T24 l (k : Int) = y at *
        have HS := Lib.hid hsum
        have f1 := pw_cell_below HO.out e1
        have HY := Lib.hid (cells31 y.f1 w g b A1 c1 wr HA.out hC1 HO.out (Nat.le_of_eq HG.out.symm) HR.out.1 HR.out.2.1)
        clear e0 e1 hC1 hl1
        have hb2 : 0 ≤ b := hb
        clear hsum hb
        go_wp2_with (first
          | (go_at_call 30; refine HOK.out.mono ?_; rintro e w2 ⟨rfl, rfl⟩)
          | (go_at_call 31; refine HY.out.mono ?_; rintro e w2 ⟨rfl, b1, C1, O1, l1, u1, r1⟩
             have C1' := Lib.hid C1
             have O1' := Lib.hid O1
             have R1' := Lib.hid (And.intro l1 (And.intro u1 r1))
             clear C1 O1 l1 u1 r1))
        go_roundw
        case rel =>
          refine ⟨k + 1, by omega, by go_num, b1, C1', Lib.hid (HO.out.trans (O1'.out.below (Nat.le_of_eq HG.out.symm) HO.out.size)), Lib.hid ⟨R1'.out.1, Int.le_trans R1'.out.2.1 HR.out.2.1, fun h => ?_⟩⟩
          have h1 := R1'.out.2.2 h
          have h2 := HR.out.2.2 hb2
          rw [HS.out, h1, h2]
          have h4 : partsT y = partsC y.f1 := rfl
          omega
        case measure => simp [intOf]; omega
      · have HOK := Lib.hid (ok_no g b wr HA.out (by omega))
        go_wp2_with (go_at_call 30; refine HOK.out.mono ?_; rintro e w2 ⟨rfl, rfl⟩)
        go_wp2_with (go_at_call 30; refine (ok_no g b _ HA.out (by omega)).mono ?_; rintro e w2 ⟨rfl, rfl⟩)
        go_ret
        exact ⟨false, rfl, (fun h => by cases h), HO⟩
    · go_wp2_with (go_at_call 30; refine (ok30 g b _ HA.out).mono ?_; rintro e w2 ⟨rfl, rfl⟩)
      go_ret
      obtain rfl : k = n := by omega
      refine ⟨_, rfl, fun h => ?_, HO⟩
      have h0 : 0 ≤ b := by simpa using h
      have h1 := HR.out.2.2 h0
      rw [List.take_of_length_le (by rw [Hn.out]; exact Nat.le_refl _)] at h1
      omega
end Go.Proofs.Ytpplnhefpcofoaa.PDeltaJoin

namespace Go.Proofs.Ytpplnhefpcofoaa.PDeltaJoin
open Go.RowKit Go.Proofs.YtpplnhefpcofoaaW.PrintWords Go.Proofs.YtpplnhefpcofoaaW.PrintLast
def SaysB (bl : Bool) (w : World) (e : Ending) (w' : World) : Prop := e = .returned (.bool bl) ∧ Hid (Below w.heap.size w w')
end Go.Proofs.Ytpplnhefpcofoaa.PDeltaJoin
