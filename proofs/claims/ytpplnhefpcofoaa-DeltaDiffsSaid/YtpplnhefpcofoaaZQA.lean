/- What the reference's printed functions answer, plainly: copies, at, in. -/
import Derived.Test.YtpplnhefpcofoaaZXE
import Derived.Test.YtpplnhefpcofoaaZXF
import Derived.Test.YtpplnhefpcofoaaZPL
namespace Go.Proofs.Ytpplnhefpcofoaa.PDeltaJoin
open Go.RowKit Go.Proofs.YtpplnhefpcofoaaW.PrintWords Go.Proofs.YtpplnhefpcofoaaW.PrintLast
set_option linter.unusedVariables false
set_option linter.unusedSimpArgs false
theorem leo_le {α : Type} {f : Nat → Option α} (h : ∀ k, LeO (f k) (f (k + 1))) {k m : Nat} (hkm : k ≤ m) {r : α} (hr : f k = some r) : f m = some r := by
  induction hkm with
  | refl => exact hr
  | step _ ih => exact h _ r ih
theorem wrap64_succ (k : Nat) (h : k ≤ 1000000000000) : wrap64 ((k : Int) + 1) = ((k + 1 : Nat) : Int) := by unfold wrap64; omega
theorem take_succ_getD {α : Type} (l : List α) (z : α) (k : Nat) (h : k < l.length) : l.take (k + 1) = l.take k ++ [l.getD k z] := by
  have e : l.getD k z = l[k] := by simp [List.getD_eq_getElem?_getD, List.getElem?_eq_getElem h]
  rw [e, List.take_append_getElem h]
theorem rd87_nat (l : List S87) (k : Nat) : rd_T87 l (k : Int) = l.getD k z87 := by unfold rd_T87; rw [Int.toNat_natCast]
theorem rd63_nat (l : List S63) (k : Nat) : rd_T63 l (k : Int) = l.getD k z63 := by unfold rd_T63; rw [Int.toNat_natCast]
theorem S87.eta (y : S87) : (⟨y.f0, y.f1, y.f2, y.f3⟩ : S87) = y := by cases y; rfl
theorem valL (l : List S87) (he : ∀ y ∈ l, ∃ K, eddyref5_Value.f K y.f0 y.f1 y.f2 y.f3 = some (y.f0, y.f1, y.f2, y.f3)) (hl : l.length ≤ 100000) (f0 f1 : Int) (f2 : ByteArray) :
    ∀ d k, k + d = l.length → ∃ K, eddyref5_Value.l0 K (l.take k) (k : Int) f0 f1 f2 l = some (f0, f1, f2, l)
  | 0, k, hk => ⟨1, by rw [eddyref5_Value.l0, if_neg (by omega), List.take_of_length_le (by omega)]⟩
  | d + 1, k, hk => by
    have hlt : k < l.length := by omega
    obtain ⟨K1, h1⟩ := he (l.getD k z87) (getD_mem _ _ _ hlt)
    obtain ⟨K2, h2⟩ := valL l he hl f0 f1 f2 d (k + 1) (by omega)
    refine ⟨max K1 K2 + 1, ?_⟩
    have h1' := leo_le (f := fun K => eddyref5_Value.f K _ _ _ _) (eddyref5_Value.mono _ _ _ _) (Nat.le_max_left K1 K2) h1
    have h2' := leo_le (f := fun K => eddyref5_Value.l0 K _ _ _ _ _ _) (fun K => (eddyref5_Value.mono_l K).2 _ _ _ _ _ _) (Nat.le_max_right K1 K2) h2
    rw [eddyref5_Value.l0, if_pos (by omega), if_pos (by omega), rd87_nat, h1']
    show (if (l.take k).length < 2513169434916 then _ else _) = _
    rw [if_pos (by have := List.length_take_le k l; omega), wrap64_succ k (by omega)]
    dsimp only
    rw [S87.eta, ← take_succ_getD l z87 k hlt]
    exact h2'
theorem val_some : ∀ (N : Nat) (x : S87), SizeOf.sizeOf x ≤ N → partsV x.f3 ≤ 100000 → ∃ K, eddyref5_Value.f K x.f0 x.f1 x.f2 x.f3 = some (x.f0, x.f1, x.f2, x.f3)
  | 0, x, h, _ => by cases x; simp at h
  | N + 1, x, h, hp => by
    obtain ⟨K, hK⟩ := valL x.f3 (fun y hy => val_some N y (by have := S87.size_mem hy; omega) (Nat.le_trans (partsV_mem hy) hp)) (by have := partsV_len x.f3; omega) x.f0 x.f1 x.f2 x.f3.length 0 (by omega)
    exact ⟨K + 1, by rw [eddyref5_Value.f]; exact hK⟩
theorem vals_some (l : List S87) (hp : partsV l ≤ 100000) : ∃ K, eddyref8_values.f K l = some l := by
  have hl : l.length ≤ 100000 := by have := partsV_len l; omega
  have H : ∀ d k, k + d = l.length → ∃ K, eddyref8_values.l0 K l (l.take k) (k : Int) = some l := by
    intro d
    induction d with
    | zero => exact fun k hk => ⟨1, by rw [eddyref8_values.l0, if_neg (by omega), List.take_of_length_le (by omega)]⟩
    | succ d ih =>
      intro k hk
      have hlt : k < l.length := by omega
      obtain ⟨K1, h1⟩ := val_some _ (l.getD k z87) (Nat.le_refl _) (Nat.le_trans (partsV_mem (getD_mem _ _ _ hlt)) hp)
      obtain ⟨K2, h2⟩ := ih (k + 1) (by omega)
      refine ⟨max K1 K2 + 1, ?_⟩
      have h1' := leo_le (f := fun K => eddyref5_Value.f K _ _ _ _) (eddyref5_Value.mono _ _ _ _) (Nat.le_max_left K1 K2) h1
      have h2' := leo_le (f := fun K => eddyref8_values.l0 K _ _ _) (fun K => eddyref8_values.mono_l K _ _ _) (Nat.le_max_right K1 K2) h2
      rw [eddyref8_values.l0, if_pos (by omega), if_pos (by omega), rd87_nat, h1']
      show (if (l.take k).length < 2513169434916 then _ else _) = _
      rw [if_pos (by have := List.length_take_le k l; omega), wrap64_succ k (by omega)]
      dsimp only
      rw [S87.eta, ← take_succ_getD l z87 k hlt]
      exact h2'
  exact H l.length 0 (by omega)
theorem state_some (n : Int) (l : List S63) (hp : partsC l ≤ 100000) : ∃ K, eddyref8_State.f K n l = some (n, l) := by
  have hl : l.length ≤ 100000 := by have := partsC_len l; omega
  have H : ∀ d k, k + d = l.length → ∃ K, eddyref8_State.l0 K (k : Int) n l n (l.take k) = some (n, l) := by
    intro d
    induction d with
    | zero => exact fun k hk => ⟨1, by rw [eddyref8_State.l0, if_neg (by omega), List.take_of_length_le (by omega)]⟩
    | succ d ih =>
      intro k hk
      have hlt : k < l.length := by omega
      obtain ⟨K1, h1⟩ := vals_some (l.getD k z63).f1 (Nat.le_trans (partsC_mem (getD_mem _ _ _ hlt)) hp)
      obtain ⟨K2, h2⟩ := ih (k + 1) (by omega)
      refine ⟨max K1 K2 + 1, ?_⟩
      have h1' := leo_le (f := fun K => eddyref8_values.f K _) (eddyref8_values.mono _) (Nat.le_max_left K1 K2) h1
      have h2' := leo_le (f := fun K => eddyref8_State.l0 K _ _ _ _ _) (fun K => eddyref8_State.mono_l K _ _ _ _ _) (Nat.le_max_right K1 K2) h2
      rw [eddyref8_State.l0, if_pos (by omega), if_pos (by omega), rd63_nat, h1']
      show (if (l.take k).length < 3518437208883 then _ else _) = _
      rw [if_pos (by have := List.length_take_le k l; omega), wrap64_succ k (by omega)]
      have e : (⟨(l.getD k z63).f0, (l.getD k z63).f1⟩ : S63) = l.getD k z63 := by cases l.getD k z63; rfl
      rw [e, ← take_succ_getD l z63 k hlt]
      exact h2'
  exact H l.length 0 (by omega)
/-- The first cell of a key. -/
def atP (l : List S63) (key : ByteArray) : ByteArray × List S87 × Bool := match l.find? (fun c => decide (c.f0 = key)) with
  | some c => (key, c.f1, true)
  | none => (⟨#[]⟩, [], false)
theorem toList_eq_iff {a b : ByteArray} : a.toList = b.toList ↔ a = b := ⟨fun h => Classical.byContradiction fun hn => text_ne hn h, fun h => by rw [h]⟩
theorem atL1 (l : List S63) (i : Nat) (hi : i < l.length) (hp : partsC l ≤ 100000) (key : ByteArray) : ∃ K, eddyref11_at.l1 K l (i : Int) 0 key [] = some (key, (l.getD i z63).f1, true) := by
  have hv := Nat.le_trans (partsC_mem (getD_mem l z63 i hi)) hp
  generalize hu : (l.getD i z63).f1 = v at hv ⊢
  have hl : v.length ≤ 100000 := by have := partsV_len v; omega
  have H : ∀ d k, k + d = v.length → ∃ K, eddyref11_at.l1 K l (i : Int) (k : Int) key (v.take k) = some (key, v, true) := by
    intro d
    induction d with
    | zero => exact fun k hk => ⟨1, by rw [eddyref11_at.l1, rd63_nat, hu, if_pos (by omega), if_pos (by omega), if_neg (by omega), List.take_of_length_le (by omega)]⟩
    | succ d ih =>
      intro k hk
      have hlt : k < v.length := by omega
      obtain ⟨K1, h1⟩ := val_some _ (v.getD k z87) (Nat.le_refl _) (Nat.le_trans (partsV_mem (getD_mem _ _ _ hlt)) hv)
      obtain ⟨K2, h2⟩ := ih (k + 1) (by omega)
      refine ⟨max K1 K2 + 1, ?_⟩
      have h1' := leo_le (f := fun K => eddyref5_Value.f K _ _ _ _) (eddyref5_Value.mono _ _ _ _) (Nat.le_max_left K1 K2) h1
      have h2' := leo_le (f := fun K => eddyref11_at.l1 K _ _ _ _ _) (fun K => (eddyref11_at.mono_l K).2 _ _ _ _ _) (Nat.le_max_right K1 K2) h2
      rw [eddyref11_at.l1, rd63_nat, hu, if_pos (by omega), if_pos (by omega), if_pos (by omega), if_pos (by omega), rd87_nat, h1']
      show (if (v.take k).length < 2513169434916 then _ else _) = _
      rw [if_pos (by have := List.length_take_le k v; omega), wrap64_succ k (by omega)]
      dsimp only
      rw [S87.eta, ← take_succ_getD v z87 k hlt]
      exact h2'
  exact H v.length 0 (by omega)
theorem at_some (l : List S63) (hp : partsC l ≤ 100000) (key : ByteArray) : ∃ K, eddyref11_at.f K l key = some (atP l key) := by
  have hl : l.length ≤ 100000 := by have := partsC_len l; omega
  have H : ∀ d k, k + d = l.length → ∃ K, eddyref11_at.l0 K l key (k : Int) = some (atP (l.drop k) key) := by
    intro d
    induction d with
    | zero => exact fun k hk => ⟨1, by rw [eddyref11_at.l0, if_neg (by omega), List.drop_eq_nil_of_le (by omega)]; rfl⟩
    | succ d ih =>
      intro k hk
      have hlt : k < l.length := by omega
      have hd : l.drop k = l.getD k z63 :: l.drop (k + 1) := by
        have e : l.getD k z63 = l[k] := by simp [List.getD_eq_getElem?_getD, List.getElem?_eq_getElem hlt]
        rw [e, List.drop_eq_getElem_cons hlt]
      by_cases hk0 : (l.getD k z63).f0 = key
      · obtain ⟨K1, h1⟩ := atL1 l k hlt hp key
        refine ⟨K1 + 1, ?_⟩
        rw [eddyref11_at.l0, if_pos (by omega), if_pos (by omega), rd63_nat, if_pos (by rw [hk0]), h1, hd]
        unfold atP
        rw [List.find?_cons_of_pos (p := fun c : S63 => decide (c.f0 = key)) (decide_eq_true hk0)]
      · obtain ⟨K2, h2⟩ := ih (k + 1) (by omega)
        refine ⟨K2 + 1, ?_⟩
        rw [eddyref11_at.l0, if_pos (by omega), if_pos (by omega), rd63_nat, if_neg (fun h => hk0 (toList_eq_iff.1 h)), wrap64_succ k (by omega), h2, hd]
        unfold atP
        rw [List.find?_cons_of_neg (p := fun c : S63 => decide (c.f0 = key)) (by rw [decide_eq_false hk0]; simp)]
  obtain ⟨K, h⟩ := H l.length 0 (by omega)
  exact ⟨K, by rw [eddyref11_at.f]; exact h⟩
theorem rdOf_nat (l : List ByteArray) (k : Nat) (h : k < l.length) : rdOf ByteArray.empty l (k : Int) = l[k] := by
  unfold rdOf
  simp [List.getD_eq_getElem?_getD, List.getElem?_eq_getElem h]
end Go.Proofs.Ytpplnhefpcofoaa.PDeltaJoin
