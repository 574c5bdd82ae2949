/- The reference's rank, plainly: what it tells of a value, and that it tells values apart. -/
import Derived.Test.YtpplnhefpcofoaaZXP
import Derived.Test.YtpplnhefpcofoaaZQC
import Derived.Test.YtpplnhefpcofoaaZQA
namespace Go.Proofs.Ytpplnhefpcofoaa.PDeltaJoin
open Go.RowKit Go.Proofs.YtpplnhefpcofoaaW.PrintWords Go.Proofs.YtpplnhefpcofoaaW.PrintLast
set_option linter.unusedVariables false
set_option linter.unusedSimpArgs false
def In64 (n : Int) : Prop := -9223372036854775808 ≤ n ∧ n ≤ 9223372036854775807
/-- Values that Check lets pass, with whole numbers of their kind. -/
inductive Wf : S87 → Prop
  | mk (x : S87) (h0 : 0 ≤ x.f0 ∧ x.f0 ≤ 3) (h1 : x.f0 ≠ 1 → x.f1 = 0) (h2 : x.f0 ≠ 2 → x.f2 = ⟨#[]⟩) (h3 : x.f0 ≠ 3 → x.f3 = []) (hs : x.f2.size ≤ 24) (hr : In64 x.f1) (hc : ∀ y ∈ x.f3, Wf y) : Wf x
/-! place -/
def upl (n : Int) : Int := Go.bits .xor .u64 (IntKind.u64.wrap n) 9223372036854775808
theorem wrap_u64 (n : Int) : IntKind.u64.wrap n = n % 18446744073709551616 := by unfold IntKind.wrap IntKind.signed IntKind.bits; simp
def uplB (n : Int) : BitVec 64 := BitVec.ofInt 64 (n % 18446744073709551616) ^^^ BitVec.ofInt 64 9223372036854775808
theorem upl_eq (n : Int) : upl n = ((uplB n).toNat : Int) := by
  have e : upl n = ((uplB n).toNat : Int) % 18446744073709551616 := by
    unfold upl Go.bits
    rw [wrap_u64, wrap_u64]
    rfl
  have := (uplB n).isLt
  omega
theorem upl_range (n : Int) : 0 ≤ upl n ∧ upl n < 18446744073709551616 := by
  rw [upl_eq]
  have := (uplB n).isLt
  omega
theorem upl_inj {n m : Int} (hn : In64 n) (hm : In64 m) (h : upl n = upl m) : n = m := by
  rw [upl_eq, upl_eq] at h
  have h1 : uplB n = uplB m := BitVec.eq_of_toNat_eq (by omega)
  have h2 := (BitVec.xor_left_inj _).1 h1
  have h3 := congrArg BitVec.toNat h2
  rw [BitVec.toNat_ofInt, BitVec.toNat_ofInt] at h3
  obtain ⟨a1, a2⟩ := hn
  obtain ⟨b1, b2⟩ := hm
  have e : ((2 ^ 64 : Nat) : Int) = 18446744073709551616 := rfl
  rw [e] at h3
  omega
def plP (n : Int) : List Int := [upl n / 72057594037927936 % 256, upl n / 281474976710656 % 256, upl n / 1099511627776 % 256, upl n / 4294967296 % 256, upl n / 16777216 % 256, upl n / 65536 % 256, upl n / 256 % 256, upl n / 1 % 256]
set_option maxRecDepth 100000 in
theorem place_some (n : Int) : eddyref2_place.f 9 n = some (plP n) := by
  unfold eddyref2_place.f
  show eddyref2_place.l0 9 (upl n) [] 56 = _
  simp [eddyref2_place.l0, wrap64, shr, IntKind.bits, plP]
set_option maxRecDepth 100000 in
theorem digits {u v : Int} (hu : 0 ≤ u ∧ u < 18446744073709551616) (hv : 0 ≤ v ∧ v < 18446744073709551616) (h7 : u / 72057594037927936 % 256 = v / 72057594037927936 % 256) (h6 : u / 281474976710656 % 256 = v / 281474976710656 % 256) (h5 : u / 1099511627776 % 256 = v / 1099511627776 % 256) (h4 : u / 4294967296 % 256 = v / 4294967296 % 256) (h3 : u / 16777216 % 256 = v / 16777216 % 256) (h2 : u / 65536 % 256 = v / 65536 % 256) (h1 : u / 256 % 256 = v / 256 % 256) (h0 : u / 1 % 256 = v / 1 % 256) : u = v := by
  omega
theorem plP_inj {n m : Int} (hn : In64 n) (hm : In64 m) {s t : List Int} (h : plP n ++ s = plP m ++ t) : n = m ∧ s = t := by
  unfold plP at h
  simp only [List.cons_append, List.nil_append, List.cons.injEq] at h
  obtain ⟨h7, h6, h5, h4, h3, h2, h1, h0, hs⟩ := h
  exact ⟨upl_inj hn hm (digits (upl_range n) (upl_range m) h7 h6 h5 h4 h3 h2 h1 h0), hs⟩
/-! strings -/
def bsI (b : ByteArray) : List Int := b.data.toList.map (fun c => (c.toNat : Int))
theorem bsI_len (b : ByteArray) : (bsI b).length = b.size := by unfold bsI; rw [List.length_map]; rfl
theorem mapI_inj : ∀ (l m : List UInt8), l.map (fun c => (c.toNat : Int)) = m.map (fun c => (c.toNat : Int)) → l = m
  | [], [], _ => rfl
  | [], _ :: _, h => by simp at h
  | _ :: _, [], h => by simp at h
  | c :: l, d :: m, h => by
    rw [List.map_cons, List.map_cons] at h
    injection h with h1 h2
    rw [mapI_inj l m h2, UInt8.toNat_inj.1 (Int.ofNat.inj h1)]
theorem bsI_inj {a b : ByteArray} (h : bsI a = bsI b) : a = b := by
  have := mapI_inj _ _ h
  obtain ⟨x⟩ := a
  obtain ⟨y⟩ := b
  rw [show x = y from Array.toList_inj.1 this]
theorem bt_bsI (b : ByteArray) (i : Nat) (h : i < b.size) : bt b (i : Int) = (bsI b)[i]'(by rw [bsI_len]; exact h) := by
  unfold bt bsI
  rw [dif_pos (by rw [Int.toNat_natCast]; exact h)]
  simp
  rfl
def encB : List Int → List Int
  | [] => []
  | c :: l => (if c = 0 then [0, 255] else [c]) ++ encB l
theorem encB_len : ∀ l, (encB l).length ≤ 2 * l.length
  | [] => by simp [encB]
  | c :: l => by
    have := encB_len l
    rw [encB, List.length_append, List.length_cons]
    split <;> simp <;> omega
theorem encB_inj : ∀ (l m s t : List Int), encB l ++ 0 :: 0 :: s = encB m ++ 0 :: 0 :: t → l = m ∧ s = t
  | [], [], s, t, h => by simp [encB] at h; exact ⟨rfl, h⟩
  | [], d :: m, s, t, h => by
    rw [encB, encB] at h
    by_cases hd : d = 0
    · simp [hd] at h
    · simp [hd] at h
      exact absurd h.1.symm hd
  | c :: l, [], s, t, h => by
    rw [encB, encB] at h
    by_cases hd : c = 0
    · simp [hd] at h
    · simp [hd] at h
  | c :: l, d :: m, s, t, h => by
    rw [encB, encB] at h
    by_cases hc : c = 0 <;> by_cases hd : d = 0
    · simp [hc, hd] at h
      obtain ⟨e1, e2⟩ := encB_inj l m s t h
      exact ⟨by rw [hc, hd, e1], e2⟩
    · simp [hc, hd] at h
      exact absurd h.1.symm hd
    · simp [hc, hd] at h
    · simp [hc, hd] at h
      obtain ⟨e1, e2⟩ := encB_inj l m s t h.2
      exact ⟨by rw [h.1, e1], e2⟩
/-! the rank -/
mutual
def rkV (x : S87) : List Int := (wrap64 (x.f0 + 1) % 256) :: (if x.f0 = 1 then plP x.f1 else if x.f0 = 2 then encB (bsI x.f2) ++ [0, 0] else if x.f0 = 3 then rkL x.f3 ++ [0] else [])
termination_by SizeOf.sizeOf x
decreasing_by cases x; simp; omega
def rkL (l : List S87) : List Int :=
  match l with
  | [] => []
  | y :: ys => rkV y ++ rkL ys
termination_by SizeOf.sizeOf l
decreasing_by all_goals (simp; try omega)
end
theorem rkV_eq (f0 f1 : Int) (f2 : ByteArray) (f3 : List S87) : rkV ⟨f0, f1, f2, f3⟩ = (wrap64 (f0 + 1) % 256) :: (if f0 = 1 then plP f1 else if f0 = 2 then encB (bsI f2) ++ [0, 0] else if f0 = 3 then rkL f3 ++ [0] else []) := by rw [rkV]
theorem rkL_nil : rkL [] = [] := by rw [rkL]
theorem rkL_cons (y : S87) (ys : List S87) : rkL (y :: ys) = rkV y ++ rkL ys := by rw [rkL]
theorem kind_head {a b : Int} (ha : 0 ≤ a ∧ a ≤ 3) (hb : 0 ≤ b ∧ b ≤ 3) (h : wrap64 (a + 1) % 256 = wrap64 (b + 1) % 256) : a = b := by unfold wrap64 at h; omega
theorem rkV_head {x : S87} (h : Wf x) : ∃ r, rkV x = (x.f0 + 1) :: r := by
  obtain ⟨_, h0, _, _, _, _, _, _⟩ := h
  obtain ⟨f0, f1, f2, f3⟩ := x
  rw [rkV_eq]
  exact ⟨_, by rw [show wrap64 (f0 + 1) % 256 = f0 + 1 from by unfold wrap64; simp only at h0; omega]⟩
theorem rk_inj : ∀ (N : Nat), (∀ (x y : S87) (s t : List Int), SizeOf.sizeOf x ≤ N → Wf x → Wf y → rkV x ++ s = rkV y ++ t → x = y ∧ s = t) ∧ (∀ (l k : List S87) (s t : List Int), SizeOf.sizeOf l ≤ N → (∀ y ∈ l, Wf y) → (∀ y ∈ k, Wf y) → rkL l ++ 0 :: s = rkL k ++ 0 :: t → l = k ∧ s = t)
  | 0 => ⟨fun x => by cases x; intro y s t h; simp at h, fun l => by cases l <;> (intro k s t h; simp at h)⟩
  | N + 1 => by
    obtain ⟨iv, il⟩ := rk_inj N
    refine ⟨fun x y s t h hx hy he => ?_, fun l k s t h hl hk he => ?_⟩
    · obtain ⟨_, a0, a1, a2, a3, a4, a5, a6⟩ := hx
      obtain ⟨_, b0, b1, b2, b3, b4, b5, b6⟩ := hy
      obtain ⟨f0, f1, f2, f3⟩ := x
      obtain ⟨g0, g1, g2, g3⟩ := y
      rw [rkV_eq, rkV_eq, List.cons_append, List.cons_append] at he
      injection he with e0 e1
      simp only at a0 a1 a2 a3 a5 a6 b0 b1 b2 b3 b5 b6
      obtain rfl := kind_head a0 b0 e0
      by_cases k1 : f0 = 1
      · rw [if_pos k1, if_pos k1] at e1
        obtain ⟨rfl, rfl⟩ := plP_inj a5 b5 e1
        rw [a2 (by omega), b2 (by omega), a3 (by omega), b3 (by omega)]
        exact ⟨rfl, rfl⟩
      rw [if_neg k1, if_neg k1] at e1
      by_cases k2 : f0 = 2
      · rw [if_pos k2, if_pos k2, List.append_assoc, List.append_assoc] at e1
        obtain ⟨q, rfl⟩ := encB_inj _ _ _ _ e1
        rw [bsI_inj q, a1 k1, b1 k1, a3 (by omega), b3 (by omega)]
        exact ⟨rfl, rfl⟩
      rw [if_neg k2, if_neg k2] at e1
      by_cases k3 : f0 = 3
      · rw [if_pos k3, if_pos k3, List.append_assoc, List.append_assoc] at e1
        obtain ⟨rfl, rfl⟩ := il f3 g3 s t (by simp at h; omega) a6 b6 e1
        rw [a1 k1, b1 k1, a2 k2, b2 k2]
        exact ⟨rfl, rfl⟩
      · rw [if_neg k3, if_neg k3] at e1
        rw [a1 k1, b1 k1, a2 k2, b2 k2, a3 k3, b3 k3]
        exact ⟨rfl, by simpa using e1⟩
    · cases l with
      | nil =>
        cases k with
        | nil => rw [rkL_nil] at he; exact ⟨rfl, by simpa using he⟩
        | cons y ys =>
          rw [rkL_nil, rkL_cons] at he
          obtain ⟨r, hr⟩ := rkV_head (hk y (by simp))
          rw [hr] at he
          simp at he
          have : 0 ≤ y.f0 := by obtain ⟨_, b0, _⟩ := hk y (by simp); exact b0.1
          omega
      | cons x xs =>
        cases k with
        | nil =>
          rw [rkL_nil, rkL_cons] at he
          obtain ⟨r, hr⟩ := rkV_head (hl x (by simp))
          rw [hr] at he
          simp at he
          have : 0 ≤ x.f0 := by obtain ⟨_, b0, _⟩ := hl x (by simp); exact b0.1
          omega
        | cons y ys =>
          rw [rkL_cons, rkL_cons, List.append_assoc, List.append_assoc] at he
          simp at h
          obtain ⟨rfl, he2⟩ := iv x y _ _ (by omega) (hl x (by simp)) (hk y (by simp)) he
          obtain ⟨rfl, rfl⟩ := il xs ys s t (by omega) (fun z hz => hl z (List.mem_cons_of_mem _ hz)) (fun z hz => hk z (List.mem_cons_of_mem _ hz)) he2
          exact ⟨rfl, rfl⟩
theorem rkV_inj {x y : S87} (hx : Wf x) (hy : Wf y) (h : rkV x = rkV y) : x = y := ((rk_inj _).1 x y [] [] (Nat.le_refl _) hx hy (by rw [h])).1
end Go.Proofs.Ytpplnhefpcofoaa.PDeltaJoin
