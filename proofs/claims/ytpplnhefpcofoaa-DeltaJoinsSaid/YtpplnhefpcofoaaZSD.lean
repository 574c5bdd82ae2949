/- eddysize: deltas and states counted; a literal's row. -/
import Derived.Test.YtpplnhefpcofoaaZSZ
namespace Go.Proofs.Ytpplnhefpcofoaa.PDeltaJoin
open Go.RowKit Go.Proofs.YtpplnhefpcofoaaW.PrintWords Go.Proofs.YtpplnhefpcofoaaW.PrintLast
set_option linter.unusedVariables false
set_option linter.unusedSimpArgs false
theorem lit_C {α : Type} (d : Kd α) {W : World} {b : Nat} {t : TypeId} {xs : List α} {inner : List Value} (hr : Reps (d.K W) d.sz xs inner) (hb : W.heap[b]? = some (.cells inner.toArray t (0, 0))) (hm : xs.length ≤ 9223372036854775807) : d.C W (some ⟨b, 0, none⟩) xs.length xs :=
  ⟨rfl, hm, fun _ => ⟨_, rfl, fun j p hj => by
    have hp := hr.2 j p hj
    refine ⟨_, d.K_len hp, hp, fun i u hu => ?_⟩
    have hu2 : inner[j * d.sz + i]? = some u := by
      rw [List.getElem?_take] at hu
      split at hu
      · rw [List.getElem?_drop] at hu; exact hu
      · cases hu
    have e : (⟨b, 0, none⟩ : Addr).add (j * d.sz + i) = ⟨b, j * d.sz + i, none⟩ := by simp [Addr.add]; intro h1 h2; rw [h1, h2]
    rw [e]
    exact blk_at hb _ (by simpa using hu2)⟩⟩
theorem ok30 (g : Nat) (a : Int) (w : World) (h : CntAt w g a) : Calls Try.prog 30 #[.pointer (some ⟨g, 0, none⟩)] w fun e w' => e = .returned (.bool (decide (0 ≤ a))) ∧ w = w' := by
  by_cases ha : 0 ≤ a
  · rw [decide_eq_true ha]; exact ok_yes g a w h ha
  · rw [decide_eq_false ha]; exact ok_no g a w h (by omega)
def partsD (x : S27) : Nat := x.f2.length + partsC x.f1
set_option maxHeartbeats 4000000 in
theorem delta32 (x : S27) (w0 : World) (g : Nat) (a : Int) (A B : Option Addr) (ca cb : Nat) (w : World) (hA : CntAt w g a) (hC : Kd.C k63 w0 A x.f1.length x.f1) (hG : Kd.C Kd.string w0 B x.f2.length x.f2) (hB : Below w0.heap.size w0 w) (hg : w0.heap.size ≤ g) (ha1 : -9223372036854775807 ≤ a) (ha2 : a ≤ 10000) :
    Calls Try.prog 32 #[.pointer (some ⟨g, 0, none⟩), .agg #[.int .i64 x.f0, .slice A x.f1.length ca, .slice B x.f2.length cb]] w fun e w' => e = .returned (.tuple #[]) ∧ CntPost g a (partsD x) w w' := by
  obtain ⟨n, hn⟩ : ∃ n, n = x.f1.length := ⟨_, rfl⟩
  obtain ⟨m, hm⟩ : ∃ m, m = x.f2.length := ⟨_, rfl⟩
  have hmax : m ≤ 9223372036854775807 := by rw [hm]; exact Kd.C_max hG
  have hgl : g < w.heap.size := blk_lt hA
  have HA1 : Hid (CntAt (w.alloc (.cells #[.int .i64 x.f0, .slice A n ca, .slice B m cb] 27)) g a) := Lib.hid (blk_alloc hA _)
  have HADD := Lib.hid (add47 g a m (w.alloc (.cells #[.int .i64 x.f0, .slice A n ca, .slice B m cb] 27)) HA1.out hmax ha1 ha2)
  have HCE : Hid (∀ b1 W1, CntAt W1 g b1 → Only g (w.alloc (.cells #[.int .i64 x.f0, .slice A n ca, .slice B m cb] 27)) W1 → -9223372036854775807 ≤ b1 → b1 ≤ 10000 → Calls Try.prog 31 #[.pointer (some ⟨g, 0, none⟩), .slice A n ca] W1 fun e w' => e = .returned (.tuple #[]) ∧ CntPost g b1 (partsC x.f1) W1 w') := Lib.hid (fun b1 W1 h1 h2 h3 h4 => by
    have := cells31 x.f1 w0 g b1 A ca W1 h1 hC (((hB.alloc hB.size _)).trans (h2.below hg (by have := hB.size; simp; omega))) hg h3 h4
    rw [← hn] at this
    exact this)
  have HBX : Hid ((w.alloc (.cells #[.int .i64 x.f0, .slice A n ca, .slice B m cb] 27)).heap[w.heap.size]? = some (.cells #[.int .i64 x.f0, .slice A n ca, .slice B m cb] 27 (0, 0))) := Lib.hid (blk_new w _)
  have HM := Lib.hid hm
  have HGL := Lib.hid hgl
  have HAA := Lib.hid ha2
  rw [← hn, ← hm]
  clear hA hC hG hB hg hn hm hgl HA1
  go_enter Try.func32, Try.ntmps32
  go_wp2_with (first
    | (go_at_call 47; refine HADD.out.mono ?_; rintro e w1 ⟨⟨bb, rfl⟩, b0, C0, O0, l0, u0, r0⟩
       have K := Lib.hid (HBX.out |> fun h => (O0.block _ (by simp) (by have := HGL.out; omega)).trans h)
       have x1 : w1.cell? ⟨w.heap.size, 1, none⟩ = some (.slice A n ca) := blk_at K.out 1 rfl
       have H1 := Lib.hid (HCE.out b0 w1 C0 O0 l0 (Int.le_trans u0 HAA.out))
       have HO := Lib.hid O0
       have HR := Lib.hid (And.intro l0 (And.intro u0 r0))
       clear C0 O0 l0 u0 r0)
    | (go_at_call 31; refine H1.out.mono ?_; rintro e w2 ⟨rfl, b1, C1, O1, l1, u1, r1⟩
       have HC1 := Lib.hid C1
       have HO1 := Lib.hid O1
       have HR1 := Lib.hid (And.intro l1 (And.intro u1 r1))
       clear C1 O1 l1 u1 r1))
  go_end0
  refine ⟨rfl, b1, HC1.out, ((Only.refl g w).alloc _).trans (HO.out.trans HO1.out), HR1.out.1, Int.le_trans HR1.out.2.1 HR.out.2.1, fun h => ?_⟩
  have h1 := HR1.out.2.2 h
  have h2 := HR.out.2.2 (Int.le_trans h HR1.out.2.1)
  unfold partsD
  rw [h1, h2, ← HM.out]
  omega
set_option maxRecDepth 100000 in
set_option maxHeartbeats 8000000 in
theorem deltas11 (l : List S27) (A : Option Addr) (c : Nat) (w : World) (hC : Kd.C k27 w A l.length l) :
    Calls Try.prog 11 #[.slice A l.length c] w fun e w' => ∃ b, e = .returned (.bool b) ∧ (b = true → (l.map partsD).sum ≤ 10000) ∧ Hid (Below w.heap.size w w') := by
  obtain ⟨n, hn⟩ : ∃ n, n = l.length := ⟨_, rfl⟩
  have Hn := Lib.hid hn
  have HC := Lib.hid hC
  have hmax : n ≤ 9223372036854775807 := by rw [hn]; exact Kd.C_max hC
  have HN := Lib.hid (blk_new w (.cells #[.int .i64 10000] 89))
  have HO0 : Hid (Below w.heap.size w (w.alloc (.cells #[.int .i64 10000] 89))) := (Below.refl _ _).alloc (Nat.le_refl _) _
  rw [← hn]
  clear hC hn
  go_enter Try.func11, Try.ntmps11
  go_wp2_with (go_at_call 29; refine (new29 _).mono ?_; rintro e w1 ⟨rfl, rfl⟩)
  generalize w.alloc (.cells #[.int .i64 10000] 89) = wa at *
  obtain ⟨g, hg⟩ : ∃ g, g = w.heap.size := ⟨_, rfl⟩
  rw [← hg] at HN ⊢
  have HG := Lib.hid hg
  clear hg
  go_loopw [4] (fun v4 wr => ∃ k : Nat, k ≤ n ∧ v4 = .int .i64 k ∧ ∃ b, Hid (CntAt wr g b) ∧ Hid (Below w.heap.size w wr) ∧ Hid (-9223372036854775807 ≤ b ∧ b ≤ 10000 ∧ (0 ≤ b → b = 10000 - (((l.take k).map partsD).sum : Nat)))) (fun v4 _ => n - (intOf v4).toNat)
  case atStart =>
    exact ⟨0, Nat.zero_le _, rfl, 10000, HN, HO0, by decide, by decide, fun h => by simp⟩
  case round =>
    obtain ⟨k, hk, rfl, b, HA, HO, HR⟩ := hrel
    clear HN HO0
    by_cases hlt : k < n
    · by_cases hb : 0 ≤ b
      · have HOK := Lib.hid (ok_yes g b wr HA.out hb)
        have hsum := sum_take_succ partsD l z27 k (by rw [← Hn.out]; exact hlt)
        have hrd : rd_T27 l (k : Int) = l.getD k z27 := by unfold rd_T27; rw [Int.toNat_natCast]
        rw [← hrd] at hsum
        clear hrd
        obtain ⟨ad, A1, c1, A2, c2, rfl, e0, e1, e2, hl1, hC1, hl2, hC2⟩ := at_T27 HC.out (k : Int) (by omega) (by rw [← Hn.out]; omega)
        rw [Int.toNat_natCast] at e0 e1 e2
        generalize rd_T27 l (k : Int) = y at *
        have HS := Lib.hid hsum
        have f0 := pw_cell_below HO.out e0
        have f1 := pw_cell_below HO.out e1
        have f2 := pw_cell_below HO.out e2
        have HY := Lib.hid (delta32 y w g b A1 A2 c1 c2 wr HA.out hC1 hC2 HO.out (Nat.le_of_eq HG.out.symm) HR.out.1 HR.out.2.1)
        clear e0 e1 e2 hC1 hl1 hC2 hl2
        have hb2 : 0 ≤ b := hb
        clear hsum hb
        go_wp2_with (first
          | (go_at_call 30; refine HOK.out.mono ?_; rintro e w2 ⟨rfl, rfl⟩)
          | (go_at_call 32; refine HY.out.mono ?_; rintro e w2 ⟨rfl, b1, C1, O1, l1, u1, r1⟩
             have C1' := Lib.hid C1
             have O1' := Lib.hid O1
             have R1' := Lib.hid (And.intro l1 (And.intro u1 r1))
             clear C1 O1 l1 u1 r1))
        go_roundw
        case rel =>
          refine ⟨k + 1, by omega, by go_num, b1, C1', Lib.hid (HO.out.trans (O1'.out.below (Nat.le_of_eq HG.out.symm) HO.out.size)), Lib.hid ⟨R1'.out.1, Int.le_trans R1'.out.2.1 HR.out.2.1, fun h => ?_⟩⟩
          have h1 := R1'.out.2.2 h
          have h2 := HR.out.2.2 hb2
          rw [HS.out, h1, h2]
          skip
          omega
        case measure => simp [intOf]; omega
      · have HOK := Lib.hid (ok_no g b wr HA.out (by omega))
        go_wp2_with (go_at_call 30; refine HOK.out.mono ?_; rintro e w2 ⟨rfl, rfl⟩)
        go_wp2_with (go_at_call 30; refine (ok_no g b _ HA.out (by omega)).mono ?_; rintro e w2 ⟨rfl, rfl⟩)
        go_ret
        exact ⟨false, rfl, (fun h => by cases h), HO⟩
    · go_wp2_with (go_at_call 30; refine (ok30 g b _ HA.out).mono ?_; rintro e w2 ⟨rfl, rfl⟩)
      go_ret
      obtain rfl : k = n := by omega
      refine ⟨_, rfl, fun h => ?_, HO⟩
      have h0 : 0 ≤ b := by simpa using h
      have h1 := HR.out.2.2 h0
      rw [List.take_of_length_le (by rw [Hn.out]; exact Nat.le_refl _)] at h1
      omega
end Go.Proofs.Ytpplnhefpcofoaa.PDeltaJoin
