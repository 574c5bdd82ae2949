/- Many pairs beside one another, and the slice of their pointers. -/
import Derived.Test.YtomfknblehkocaaFI
namespace Go.Proofs.Ytomfknblehkocaa.C
open Go.RowKit Go.Proofs.YtomfknblehkocaaW.PrintWords Go.Proofs.YtomfknblehkocaaW.PrintLast
set_option linter.unusedVariables false
set_option linter.unusedSimpArgs false
def kp : Kd Nat := Kd.scalar (fun g => .pointer (some ⟨g, 0, none⟩)) (fun _ => rfl)
def modeOf (i : Nat) : Int := ((1 + i % 3 : Nat) : Int)
def portsOf (i : Nat) : Nat := 2 + i % 3
theorem legalOf (i : Nat) : newE (modeOf i) (portsOf i : Int) (-1) = 0 := by
  unfold newE modeOf portsOf
  have : i % 3 < 3 := Nat.mod_lt _ (by decide)
  rw [if_neg (by omega), if_neg (by omega)]
/-- The pairs of the list L, each with its own blocks (ow i), none of them in another's; the slice of pointers (os: its blocks). -/
structure Many (W : World) (base : Nat) (L : List Nat) (ow : Nat → Nat → Nat) (os : Nat → Prop) (vl : Value) (M : Nat) : Prop where
  pr : ∀ i, i < L.length → PairS W base (ow i) (L.getD i 0) (modeOf i) (-1) (portsOf i) M
  ds : ∀ i j, i < L.length → j < L.length → i ≠ j → ∀ k, ow i k ≠ 0 → ow j k = 0
  ss : ∀ i j, i < L.length → j < L.length → ow i (L.getD j 0) = 0
  sl : Kd.R kp 62 W base os vl L
  so : ∀ i k, i < L.length → os k → ow i k = 0
  sg : ∀ i, i < L.length → ¬ os (L.getD i 0)
  sb : ∀ k, os k → k < W.heap.size
section
variable {W W' : World} {base : Nat} {L : List Nat} {ow : Nat → Nat → Nat} {os : Nat → Prop} {vl : Value} {M : Nat}
theorem Many.mono (h : Many W base L ow os vl M) {M' : Nat} (hM : M ≤ M') : Many W base L ow os vl M' := ⟨fun i hi => (h.pr i hi).mono hM, h.ds, h.ss, h.sl, h.so, h.sg, h.sb⟩
theorem Many.below (h : Many W base L ow os vl M) (hb : Below W.heap.size W W') : Many W' base L ow os vl M :=
  ⟨fun i hi => (h.pr i hi).kept (o2 := fun _ => 0) (o2' := fun _ => 0) (Upd.of_below hb (fun _ _ => rfl)) (fun _ _ => rfl) rfl, h.ds, h.ss, Kd.R_below h.sl hb, h.so, h.sg, fun k hk => Nat.lt_of_lt_of_le (h.sb k hk) hb.size⟩
theorem Many.step (h : Many W base L ow os vl M) {i : Nat} (hi : i < L.length) {o2 : Nat → Nat} {K : Nat} (hS : PairS W' base o2 (L.getD i 0) (modeOf i) (-1) (portsOf i) (M + K)) (u : Upd (ow i) W o2 W') :
    Many W' base L (fun j => if j = i then o2 else ow j) os vl (M + K) := by
  have hkey : ∀ j, j < L.length → j ≠ i → ∀ k, o2 k ≠ 0 → ow j k = 0 := fun j hj hji k hk => by
    by_cases h0 : ow j k = 0
    · exact h0
    · exact absurd (u.same k ((h.pr j hj).lo k h0).2 (h.ds j i hj hi hji k h0)) hk
  refine ⟨fun j hj => ?_, fun j q hj hq hne k hk => ?_, fun j q hj hq => ?_, ?_, fun j k hj hk => ?_, h.sg, fun k hk => Nat.lt_of_lt_of_le (h.sb k hk) u.size⟩
  · by_cases e : j = i
    · subst e; rw [if_pos rfl]; exact hS
    · rw [if_neg e]
      exact ((h.pr j hj).kept u (fun k hk => h.ds j i hj hi e k hk) (h.ss i j hi hj)).mono (by omega)
  · by_cases e : j = i
    · rw [if_pos e] at hk
      rw [if_neg (fun e2 => hne (e.trans e2.symm))]
      exact hkey q hq (fun e2 => hne (e.trans e2.symm)) k hk
    · rw [if_neg e] at hk
      by_cases e2 : q = i
      · rw [if_pos e2]
        by_cases h0 : o2 k = 0
        · exact h0
        · exact absurd (hkey j hj e k h0) hk
      · rw [if_neg e2]; exact h.ds j q hj hq hne k hk
  · by_cases e : j = i
    · rw [if_pos e]
      exact u.same _ (h.pr q hq).glt (h.ss i q hi hq)
    · rw [if_neg e]; exact h.ss j q hj hq
  · exact Kd.R_step h.sl (fun k hk hlt => u.block k hlt (h.so i k hi hk))
  · by_cases e : j = i
    · rw [if_pos e]
      exact u.same k (h.sb k hk) (h.so i k hi hk)
    · rw [if_neg e]; exact h.so j k hj hk
theorem getD_app_lt (L : List Nat) (g i : Nat) (hi : i < L.length) : (L ++ [g]).getD i 0 = L.getD i 0 := by
  rw [List.getD_eq_getElem?_getD, List.getD_eq_getElem?_getD, List.getElem?_append_left hi]
theorem getD_app_eq (L : List Nat) (g : Nat) : (L ++ [g]).getD L.length 0 = g := by
  rw [List.getD_eq_getElem?_getD, List.getElem?_append_right (Nat.le_refl _)]
  simp
/-- A new pair (block g of W1 = W with that block; its book and its reference in w2), then the slice grown by it in w4. -/
theorem Many.add (h : Many W base L ow os vl M) {o : Obj} {w2 w3 w4 : World} {o2 : Nat → Nat} (hO : Only W.heap.size (W.alloc o) w2) (hP : PairS w2 base o2 W.heap.size (modeOf L.length) (-1) (portsOf L.length) M)
    (hlo : ∀ k, o2 k ≠ 0 → (W.alloc o).heap.size ≤ k) (hb : Below w2.heap.size w2 w3) {v1 : Value} (hg : w3.grownBy w4 vl.ownBlock) (hR : Kd.R kp 62 w4 base (fun k => os k ∨ w2.heap.size ≤ k) v1 (L ++ [W.heap.size])) :
    Many w4 base (L ++ [W.heap.size]) (fun j => if j = L.length then o2 else ow j) (fun k => (os k ∨ w2.heap.size ≤ k) ∧ k < w4.heap.size) v1 M := by
  have s1 : (W.alloc o).heap.size = W.heap.size + 1 := World.size_alloc _ _
  have s2 := hO.size
  have s3 := hb.size
  have s4 := hg.size
  have hown : ∀ k, vl.ownBlock = some k → os k ∧ k < W.heap.size := fun k hk => ⟨h.sl.1 k hk, Kd.R_lt h.sl k hk⟩
  have hlt : ∀ i, i < L.length → ∀ k, ow i k ≠ 0 → k < W.heap.size := fun i hi k hk => ((h.pr i hi).lo k hk).2
  have u2 : Upd (fun k => if vl.ownBlock = some k then 1 else 0) w2 (fun k => if vl.ownBlock = some k then 1 else 0) w4 :=
    ⟨hg.os.trans hb.os, hg.tape.trans hb.tape, hg.output.trans hb.output, by omega, fun _ _ h => h, fun k hk h0 => (hg.block k (by omega) (fun e => by rw [← e] at h0; simp at h0)).trans (hb.block k hk)⟩
  have u1 : Upd (fun k => if vl.ownBlock = some k then 1 else 0) W (fun k => if vl.ownBlock = some k then 1 else 0) w4 :=
    ⟨u2.os.trans hO.os, u2.tape.trans hO.tape, u2.output.trans hO.output, by omega, fun _ _ h => h, fun k hk h0 => (u2.block k (by omega) h0).trans ((hO.block k (by omega) (by omega)).trans (Below.heap_alloc _ _ _ hk))⟩
  have hz : ∀ k, (os k → False) → (if vl.ownBlock = some k then 1 else 0 : Nat) = 0 := fun k hk => if_neg (fun e => hk (hown k e).1)
  have hlen : (L ++ [W.heap.size]).length = L.length + 1 := by simp
  refine ⟨fun i hi => ?_, fun i j hi hj hne k hk => ?_, fun i j hi hj => ?_, Kd.R_mono (Kd.R_bound hR) (fun k hk => ⟨hk.1, hk.2.2.1⟩), fun i k hi hk => ?_, fun i hi => ?_, fun k hk => hk.2⟩
  · by_cases e : i = L.length
    · subst e
      rw [if_pos rfl, getD_app_eq]
      exact hP.kept u2 (fun k hk => hz k (fun ho => by have := hlo k hk; have := h.sb k ho; omega)) (hz _ (fun ho => by have := h.sb _ ho; omega))
    · have hi' : i < L.length := by omega
      rw [if_neg e, getD_app_lt _ _ _ hi']
      exact (h.pr i hi').kept u1 (fun k hk => hz k (fun ho => hk (h.so i k hi' ho))) (hz _ (fun ho => h.sg i hi' ho))
  · by_cases e : i = L.length
    · rw [if_pos e] at hk
      rw [if_neg (fun e2 => hne (e.trans e2.symm))]
      by_cases h0 : ow j k = 0
      · exact h0
      · have := hlt j (by omega) k h0; have := hlo k hk; omega
    · rw [if_neg e] at hk
      by_cases e2 : j = L.length
      · rw [if_pos e2]
        by_cases h0 : o2 k = 0
        · exact h0
        · have := hlt i (by omega) k hk; have := hlo k h0; omega
      · rw [if_neg e2]; exact h.ds i j (by omega) (by omega) hne k hk
  · by_cases e : i = L.length
    · rw [if_pos e]
      by_cases e2 : j = L.length
      · rw [e2, getD_app_eq]; exact hP.self
      · rw [getD_app_lt _ _ _ (by omega)]
        by_cases h0 : o2 (L.getD j 0) = 0
        · exact h0
        · have := hlo _ h0; have := (h.pr j (by omega)).glt; omega
    · rw [if_neg e]
      by_cases e2 : j = L.length
      · rw [e2, getD_app_eq]
        by_cases h0 : ow i W.heap.size = 0
        · exact h0
        · have := hlt i (by omega) _ h0; omega
      · rw [getD_app_lt _ _ _ (by omega)]; exact h.ss i j (by omega) (by omega)
  · by_cases e : i = L.length
    · rw [if_pos e]
      by_cases h0 : o2 k = 0
      · exact h0
      · have h1 := hlo k h0
        have h2 := (hP.lo k h0).2
        rcases hk.1 with h3 | h3
        · have := h.sb k h3; omega
        · omega
    · rw [if_neg e]
      by_cases h0 : ow i k = 0
      · exact h0
      · have h1 := hlt i (by omega) k h0
        rcases hk.1 with h3 | h3
        · exact h.so i k (by omega) h3
        · omega
  · intro hk
    by_cases e : i = L.length
    · rw [e, getD_app_eq] at hk
      rcases hk.1 with h3 | h3
      · have := h.sb _ h3; omega
      · have := hP.glt; omega
    · have hi' : i < L.length := by omega
      rw [getD_app_lt _ _ _ hi'] at hk
      rcases hk.1 with h3 | h3
      · exact h.sg i hi' h3
      · have := (h.pr i hi').glt; omega
theorem Many.cell {g c : Nat} (h : Many W base L ow os (.slice (some ⟨g, 0, none⟩) L.length c) M) (i : Nat) (hi : i < L.length) : W.cell? ⟨g, i, none⟩ = some (.pointer (some ⟨L.getD i 0, 0, none⟩)) := by
  have := (Kd.R_cell 0 h.sl (i : Int) (by omega) (by omega)).1
  rw [Int.toNat_natCast] at this
  rw [this]
  unfold rdOf
  rw [Int.toNat_natCast]
end
end Go.Proofs.Ytomfknblehkocaa.C
