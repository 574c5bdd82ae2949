/- The print's sameValue and sameState of two that are the same. -/
import Derived.Test.YtcbaiplamaopeaaSW
import Derived.Test.YtcbaiplamaopeaaPPostShotsx3
namespace Go.Proofs.Ytcbaiplamaopeaa.PPostShots
open Go.RowKit Go.Conc Go.Proofs.YtcbaiplamaopeaaW.PrintWords Go.Proofs.YtcbaiplamaopeaaW.PrintLast
set_option linter.unusedVariables false
set_option linter.unusedSimpArgs false
theorem w64 (i : Nat) (h : i ≤ 1000000) : wrap64 ((i : Int) + 1) = ((i + 1 : Nat) : Int) := by unfold wrap64; omega
theorem sv_loop (a b : Int) (c : ByteArray) (l : List S81) (hl : l.length ≤ 100000) (ih : ∀ y ∈ l, ∃ k, eddylaw14_sameValue.f k y.f0 y.f1 y.f2 y.f3 y.f0 y.f1 y.f2 y.f3 = some true) : ∀ d i, i + d = l.length → ∃ k, eddylaw14_sameValue.l0 k (i : Int) a b c l a b c l = some true := by
  intro d
  induction d with
  | zero =>
    intro i hi
    refine ⟨1, ?_⟩
    simp only [eddylaw14_sameValue.l0]
    rw [if_neg (by omega)]
  | succ d ihd =>
    intro i hi
    have hlt : i < l.length := by omega
    obtain ⟨k1, h1⟩ := ihd (i + 1) (by omega)
    have hrd : rd_T81 l (i : Int) = l[i] := by unfold rd_T81; rw [Int.toNat_natCast, List.getD_eq_getElem?_getD, List.getElem?_eq_getElem hlt]; rfl
    obtain ⟨k2, h2⟩ := ih l[i] (List.getElem_mem hlt)
    have m1 := at_rounds (g := fun k => eddylaw14_sameValue.l0 k ((i + 1 : Nat) : Int) a b c l a b c l) (fun k => (eddylaw14_sameValue.mono_l k).2.2 _ _ _ _ _ _ _ _ _) (Nat.le_max_left k1 k2) h1
    have m2 := at_rounds (g := fun k => eddylaw14_sameValue.f k l[i].f0 l[i].f1 l[i].f2 l[i].f3 l[i].f0 l[i].f1 l[i].f2 l[i].f3) (fun k => (eddylaw14_sameValue.mono_l k).1 _ _ _ _ _ _ _ _) (Nat.le_max_right k1 k2) h2
    refine ⟨max k1 k2 + 1, ?_⟩
    simp only [eddylaw14_sameValue.l0]
    rw [if_pos (by omega), if_pos (by omega), if_pos (by omega), hrd, m2]
    simp only [Option.bind_some, if_true]
    rw [w64 i (by omega)]
    exact m1
theorem sv_refl : ∀ (N : Nat) (y : S81), SizeOf.sizeOf y ≤ N → partsV y.f3 ≤ 100000 → ∃ k, eddylaw14_sameValue.f k y.f0 y.f1 y.f2 y.f3 y.f0 y.f1 y.f2 y.f3 = some true
  | 0, y, h, _ => by cases y; simp at h
  | N + 1, y, h, hp => by
    have hl := partsV_len y.f3
    obtain ⟨k, hk⟩ := sv_loop y.f0 y.f1 y.f2 y.f3 (by omega) (fun z hz => sv_refl N z (by have := S81.size_mem hz; omega) (by have := partsV_mem hz; omega)) y.f3.length 0 (by omega)
    refine ⟨k + 2, ?_⟩
    simp only [eddylaw14_sameValue.f, eddylaw14_sameValue.j0]
    rw [if_pos trivial, if_pos trivial, if_pos trivial, if_neg (by simp)]
    exact hk
theorem ss_in (i : Nat) (hi : i ≤ 100000) (s : Int) (l : List S103) (a : ByteArray) (vs : List S81) (hv : vs.length ≤ 100000) (hs : ∀ y ∈ vs, ∃ k, eddylaw14_sameValue.f k y.f0 y.f1 y.f2 y.f3 y.f0 y.f1 y.f2 y.f3 = some true) (k0 : Nat) (h0 : eddylaw14_sameState.l0 k0 ((i + 1 : Nat) : Int) s l s l = some true) :
    ∀ d j, j + d = vs.length → ∃ k, eddylaw14_sameState.l1 k (i : Int) (j : Int) s l s l a vs a vs = some true := by
  intro d
  induction d with
  | zero =>
    intro j hj
    refine ⟨k0 + 1, ?_⟩
    simp only [eddylaw14_sameState.l1]
    rw [if_neg (by omega), w64 i (by omega)]
    exact h0
  | succ d ihd =>
    intro j hj
    have hlt : j < vs.length := by omega
    obtain ⟨k1, h1⟩ := ihd (j + 1) (by omega)
    have hrd : rd_T81 vs (j : Int) = vs[j] := by unfold rd_T81; rw [Int.toNat_natCast, List.getD_eq_getElem?_getD, List.getElem?_eq_getElem hlt]; rfl
    obtain ⟨k2, h2⟩ := hs vs[j] (List.getElem_mem hlt)
    have m1 := at_rounds (g := fun k => eddylaw14_sameState.l1 k (i : Int) ((j + 1 : Nat) : Int) s l s l a vs a vs) (fun k => (eddylaw14_sameState.mono_l k).2.2.2 _ _ _ _ _ _ _ _ _ _) (Nat.le_max_left k1 k2) h1
    have m2 := at_rounds (g := fun k => eddylaw14_sameValue.f k vs[j].f0 vs[j].f1 vs[j].f2 vs[j].f3 vs[j].f0 vs[j].f1 vs[j].f2 vs[j].f3) (fun k => (eddylaw14_sameValue.mono_l k).1 _ _ _ _ _ _ _ _) (Nat.le_max_right k1 k2) h2
    refine ⟨max k1 k2 + 1, ?_⟩
    simp only [eddylaw14_sameState.l1]
    rw [if_pos (by omega), if_pos (by omega), if_pos (by omega), hrd, m2]
    simp only [Option.bind_some, if_true]
    rw [w64 j (by omega)]
    exact m1
theorem ss_loop (s : Int) (l : List S103) (hl : partsC l ≤ 100000) : ∀ d i, i + d = l.length → ∃ k, eddylaw14_sameState.l0 k (i : Int) s l s l = some true := by
  intro d
  have hll := partsC_len l
  induction d with
  | zero =>
    intro i hi
    refine ⟨1, ?_⟩
    simp only [eddylaw14_sameState.l0]
    rw [if_neg (by omega)]
  | succ d ihd =>
    intro i hi
    have hlt : i < l.length := by omega
    obtain ⟨k0, h0⟩ := ihd (i + 1) (by omega)
    have hrd : rd_T103 l (i : Int) = l[i] := by unfold rd_T103; rw [Int.toNat_natCast, List.getD_eq_getElem?_getD, List.getElem?_eq_getElem hlt]; rfl
    have hm := partsC_mem (List.getElem_mem hlt)
    have hv := partsV_len l[i].f1
    obtain ⟨k1, h1⟩ := ss_in i (by omega) s l l[i].f0 l[i].f1 (by omega) (fun y hy => sv_refl _ y (Nat.le_refl _) (by have := partsV_mem hy; omega)) k0 h0 l[i].f1.length 0 (by omega)
    refine ⟨k1 + 2, ?_⟩
    simp only [eddylaw14_sameState.l0, eddylaw14_sameState.j2]
    rw [if_pos (by omega), if_pos (by omega), if_pos (by omega), hrd, if_pos trivial, if_neg (by simp)]
    exact h1
theorem same28 (s : Int) (l : List S103) (hl : partsC l ≤ 100000) (A : Option Addr) (c : Nat) (B : Option Addr) (d : Nat) (w : World) (h1 : Kd.C k103 w A l.length l) (l1 : l.length ≤ c) (h2 : Kd.C k103 w B l.length l) (l2 : l.length ≤ d) :
    Calls Try.prog 28 #[.agg #[.int .i64 s, .slice A l.length c], .agg #[.int .i64 s, .slice B l.length d]] w fun e w' => Yes w e w' := by
  obtain ⟨k, hk⟩ := ss_loop s l hl l.length 0 (by omega)
  refine (eddylaw14_sameState.calls (k + 1) s A c l s B d l true w h1 l1 h2 l2 ?_).mono (fun e w' h => ⟨h.1, Lib.hid h.2⟩)
  unfold eddylaw14_sameState.f
  simp only [eddylaw14_sameState.j0]
  rw [if_pos trivial, if_neg (by simp)]
  exact hk
end Go.Proofs.Ytcbaiplamaopeaa.PPostShots
