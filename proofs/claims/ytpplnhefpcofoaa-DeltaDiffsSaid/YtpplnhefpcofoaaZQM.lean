/- What the printed rank answers, in the plain words. -/
import Derived.Test.YtpplnhefpcofoaaZXS
import Derived.Test.YtpplnhefpcofoaaZQL
namespace Go.Proofs.Ytpplnhefpcofoaa.PDeltaJoin
open Go.RowKit Go.Proofs.YtpplnhefpcofoaaW.PrintWords Go.Proofs.YtpplnhefpcofoaaW.PrintLast
set_option linter.unusedVariables false
set_option linter.unusedSimpArgs false
theorem rk_len : ∀ (N : Nat), (∀ (x : S87), SizeOf.sizeOf x ≤ N → Wf x → (rkV x).length ≤ 60 * (partsF x).length) ∧ (∀ (l : List S87), SizeOf.sizeOf l ≤ N → (∀ y ∈ l, Wf y) → (rkL l).length ≤ 60 * (partsFL l).length)
  | 0 => ⟨fun x => by cases x; intro h; simp at h, fun l => by cases l <;> (intro h; simp at h)⟩
  | N + 1 => by
    obtain ⟨iv, il⟩ := rk_len N
    refine ⟨fun x h hx => ?_, fun l h hl => ?_⟩
    · obtain ⟨_, a0, a1, a2, a3, a4, a5, a6⟩ := hx
      obtain ⟨f0, f1, f2, f3⟩ := x
      simp only at a4 a6
      rw [rkV_eq, partsF_eq, List.length_cons, List.length_cons]
      have := il f3 (by simp at h; omega) a6
      split
      · simp [plP]; omega
      · split
        · have := encB_len (bsI f2)
          rw [bsI_len] at this
          rw [List.length_append]
          simp
          omega
        · split
          · rw [List.length_append]; simp; omega
          · simp; omega
    · cases l with
      | nil => rw [rkL_nil]; simp
      | cons y ys =>
        simp at h
        rw [rkL_cons, partsFL_cons, List.length_append, List.length_append]
        have := iv y (by omega) (hl y (by simp))
        have := il ys (by omega) (fun z hz => hl z (List.mem_cons_of_mem _ hz))
        omega
theorem l0_some (b : ByteArray) (nxt f0 f1 n3 : Int) : ∀ (d k : Nat) (acc : List Int), k + d = b.size → k + d ≤ 100 → acc.length + 2 * d ≤ 1000000000 → ∃ K, eddyref2_rank.l0 K acc nxt (k : Int) f0 f1 b n3 = some (acc ++ (encB ((bsI b).drop k) ++ [0, 0]), nxt)
  | 0, k, acc, hk, h1, h2 => ⟨1, by
    rw [eddyref2_rank.l0, if_neg (by omega)]
    show (if acc.length + ([0, 0] : List Int).length < 140737488355328 then _ else _) = _
    rw [if_pos (by simp; omega), List.drop_eq_nil_of_le (by rw [bsI_len]; omega)]
    rfl⟩
  | d + 1, k, acc, hk, h1, h2 => by
    have hlt : k < b.size := by omega
    have hbt := bt_bsI b k hlt
    have hdr : (bsI b).drop k = (bsI b)[k]'(by rw [bsI_len]; exact hlt) :: (bsI b).drop (k + 1) := List.drop_eq_getElem_cons (by rw [bsI_len]; exact hlt)
    rw [← hbt] at hdr
    rw [hdr, encB]
    by_cases hc : bt b (k : Int) = 0
    · obtain ⟨K, hK⟩ := l0_some b nxt f0 f1 n3 d (k + 1) ((acc ++ [bt b (k : Int)]) ++ [255]) (by omega) (by omega) (by simp; omega)
      refine ⟨K + 1, ?_⟩
      rw [eddyref2_rank.l0, if_pos (by omega), if_pos (by omega), if_pos (by omega)]
      show (if bt b (k : Int) = 0 then (if (acc ++ [bt b (k : Int)]).length < 140737488355328 then _ else _) else _) = _
      rw [if_pos hc, if_pos (by simp; omega), wrap64_succ k (by omega), hK, if_pos hc, hc]
      simp
    · obtain ⟨K, hK⟩ := l0_some b nxt f0 f1 n3 d (k + 1) (acc ++ [bt b (k : Int)]) (by omega) (by omega) (by simp; omega)
      refine ⟨K + 1, ?_⟩
      rw [eddyref2_rank.l0, if_pos (by omega), if_pos (by omega), if_pos (by omega)]
      show (if bt b (k : Int) = 0 then _ else _) = _
      rw [if_neg hc, wrap64_succ k (by omega), hK, if_neg hc]
      simp
theorem rd111_at (pre tl : List S111) (h : S111) : rd_T111 (pre ++ h :: tl) (pre.length : Int) = h := by
  unfold rd_T111
  rw [Int.toNat_natCast, List.getD_eq_getElem?_getD, List.getElem?_append_right (Nat.le_refl _), Nat.sub_self]
  rfl
theorem rank_some : ∀ (N : Nat), (∀ (x : S87), SizeOf.sizeOf x ≤ N → Wf x → ∀ (pre post : List S111), (pre ++ (partsF x ++ post)).length ≤ 100000 → ∃ K, eddyref2_rank.f K (pre ++ (partsF x ++ post)) (pre.length : Int) = some (rkV x, ((pre.length + (partsF x).length : Nat) : Int))) ∧
    (∀ (l : List S87), SizeOf.sizeOf l ≤ N → (∀ y ∈ l, Wf y) → ∀ (pre post : List S111) (acc : List Int) (j n : Nat) (f0 f1 : Int) (f2 : ByteArray), (pre ++ (partsFL l ++ post)).length ≤ 100000 → j + l.length = n → n ≤ 100000 → acc.length + 60 * (partsFL l).length ≤ 1000000000 →
      ∃ K, eddyref2_rank.l1 K (pre ++ (partsFL l ++ post)) acc (pre.length : Int) (j : Int) f0 f1 f2 (n : Int) = some (acc ++ (rkL l ++ [0]), ((pre.length + (partsFL l).length : Nat) : Int)))
  | 0 => ⟨fun x => by cases x; intro h; simp at h, fun l => by cases l <;> (intro h; simp at h)⟩
  | N + 1 => by
    obtain ⟨iv, il⟩ := rank_some N
    refine ⟨fun x h hx pre post hlen => ?_, fun l h hl pre post acc j n f0 f1 f2 hlen hj hn hacc => ?_⟩
    · obtain ⟨_, a0, a1, a2, a3, a4, a5, a6⟩ := hx
      obtain ⟨f0, f1, f2, f3⟩ := x
      simp only at a0 a1 a2 a3 a4 a6
      rw [partsF_eq] at hlen ⊢
      rw [rkV_eq]
      have hpl : pre.length < 100000 := by simp at hlen; omega
      have hfl : f3.length ≤ (partsFL f3).length := by rw [partsFL_length]; exact partsV_len f3
      have hfn : (partsFL f3).length ≤ 100000 := by simp at hlen; omega
      have hS : ∀ K, eddyref2_rank.f (K + 1) (pre ++ (⟨f0, f1, f2, f3.length⟩ :: partsFL f3 ++ post)) (pre.length : Int) = (if f0 = 1 then ((eddyref2_place.f K f1).bind fun t285 => (if [wrap64 (f0 + 1) % 256].length + t285.length < 140737488355328 then (some (([wrap64 (f0 + 1) % 256] ++ t285), wrap64 ((pre.length : Int) + 1))) else (none))) else (if f0 = 2 then (eddyref2_rank.l0 K [wrap64 (f0 + 1) % 256] (wrap64 ((pre.length : Int) + 1)) 0 f0 f1 f2 f3.length) else (if f0 = 3 then (eddyref2_rank.l1 K (pre ++ (⟨f0, f1, f2, f3.length⟩ :: partsFL f3 ++ post)) [wrap64 (f0 + 1) % 256] (wrap64 ((pre.length : Int) + 1)) 0 f0 f1 f2 f3.length) else (some ([wrap64 (f0 + 1) % 256], wrap64 ((pre.length : Int) + 1)))))) := fun K => by
        rw [eddyref2_rank.f, if_pos (by omega), if_pos (by simp; omega), List.cons_append, rd111_at]
        rfl
      rw [wrap64_succ pre.length (by omega)] at hS
      by_cases k1 : f0 = 1
      · refine ⟨10, ?_⟩
        rw [hS, if_pos k1, if_pos k1, place_some]
        simp only [Option.bind_some]
        rw [if_pos (by simp [plP]), a3 (by omega), partsFL_nil]
        rfl
      by_cases k2 : f0 = 2
      · obtain ⟨K, hK⟩ := l0_some f2 ((pre.length + 1 : Nat) : Int) f0 f1 f3.length f2.size 0 [wrap64 (f0 + 1) % 256] (by omega) (by omega) (by simp; omega)
        refine ⟨K + 1, ?_⟩
        rw [hS, if_neg k1, if_pos k2, if_neg k1, if_pos k2]
        refine hK.trans ?_
        rw [a3 (by omega), partsFL_nil, List.drop_zero]
        rfl
      by_cases k3 : f0 = 3
      · obtain ⟨K, hK⟩ := il f3 (by simp at h; omega) a6 (pre ++ [⟨f0, f1, f2, f3.length⟩]) post [wrap64 (f0 + 1) % 256] 0 f3.length f0 f1 f2 (by simp at hlen ⊢; omega) (by omega) (by omega) (by simp; omega)
        refine ⟨K + 1, ?_⟩
        rw [hS, if_neg k1, if_neg k2, if_pos k3, if_neg k1, if_neg k2, if_pos k3]
        have e : pre ++ [⟨f0, f1, f2, f3.length⟩] ++ (partsFL f3 ++ post) = pre ++ (⟨f0, f1, f2, f3.length⟩ :: partsFL f3 ++ post) := by simp
        rw [e, List.length_append, List.length_singleton] at hK
        refine hK.trans ?_
        rw [List.length_cons, Nat.add_assoc, Nat.add_comm 1]
        rfl
      · refine ⟨1, ?_⟩
        rw [hS, if_neg k1, if_neg k2, if_neg k3, if_neg k1, if_neg k2, if_neg k3, a3 k3, partsFL_nil]
        rfl
    · cases l with
      | nil =>
        refine ⟨1, ?_⟩
        rw [eddyref2_rank.l1, if_neg (by simp at hj; omega), if_pos (by omega), rkL_nil, partsFL_nil]
        rfl
      | cons y ys =>
        simp at h hj
        rw [partsFL_cons] at hlen hacc ⊢
        have hy := hl y (by simp)
        have hry := (rk_len _).1 y (Nat.le_refl _) hy
        obtain ⟨K1, h1⟩ := iv y (by omega) hy pre (partsFL ys ++ post) (by rw [← List.append_assoc (partsF y)]; exact hlen)
        obtain ⟨K2, h2⟩ := il ys (by omega) (fun z hz => hl z (List.mem_cons_of_mem _ hz)) (pre ++ partsF y) post (acc ++ rkV y) (j + 1) n f0 f1 f2 (by simp at hlen ⊢; omega) (by omega) hn (by simp at hacc ⊢; omega)
        refine ⟨max K1 K2 + 1, ?_⟩
        have h1' := leo_le (f := fun K => eddyref2_rank.f K _ _) (eddyref2_rank.mono _ _) (Nat.le_max_left K1 K2) h1
        have h2' := leo_le (f := fun K => eddyref2_rank.l1 K _ _ _ _ _ _ _ _) (fun K => (eddyref2_rank.mono_l K).2.2 _ _ _ _ _ _ _ _) (Nat.le_max_right K1 K2) h2
        have e1 : pre ++ (partsF y ++ partsFL ys ++ post) = pre ++ (partsF y ++ (partsFL ys ++ post)) := by simp
        have e2 : pre ++ partsF y ++ (partsFL ys ++ post) = pre ++ (partsF y ++ (partsFL ys ++ post)) := by simp
        rw [e2, List.length_append] at h2'
        rw [e1, eddyref2_rank.l1, if_pos (by omega), h1']
        show (if acc.length + (rkV y).length < 140737488355328 then _ else _) = _
        rw [if_pos (by simp at hacc; omega), wrap64_succ j (by omega)]
        refine h2'.trans ?_
        rw [rkL_cons, List.length_append]
        simp [Nat.add_assoc]
end Go.Proofs.Ytpplnhefpcofoaa.PDeltaJoin
