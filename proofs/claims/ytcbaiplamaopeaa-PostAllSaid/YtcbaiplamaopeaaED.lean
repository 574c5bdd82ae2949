/- The document's now, New, place, Status, Settle, Abort. -/
import Derived.Test.YtcbaiplamaopeaaEC
import Derived.Test.YtcbaiplamaopeaaPE
namespace Go.Proofs.Ytcbaiplamaopeaa.PPostShots
open Go.RowKit Go.Conc Go.Proofs.YtcbaiplamaopeaaW.PrintWords Go.Proofs.YtcbaiplamaopeaaW.PrintLast Go.Proofs.Ytcbaiplamaopeaa.PPost
set_option linter.unusedVariables false
set_option linter.unusedSimpArgs false

set_option maxRecDepth 100000 in
set_option maxHeartbeats 4000000 in
theorem now51_nil (own : Nat → Nat) (w : World) (g tg : Nat) (R : RA) (A : Option Addr) (c : Nat) (rows : List SC) (pps : List PP) (h : RefAt own w g tg R A c rows pps) (hn : rows = []) : Calls Try.prog 51 #[.pointer (some ⟨g, 0, none⟩)] w fun e w' => e = .returned (.int .i64 (-1)) ∧ w = w' := by
  subst hn
  have q3 : w.cell? ⟨g, 3, none⟩ = some (.slice A (0 : Nat) c) := blk_at h.hb 3 rfl
  clear h
  go_enter Try.func51, Try.ntmps51
  go_wp2_with (fail)
  go_ret
  exact ⟨rfl, rfl⟩
set_option maxRecDepth 100000 in
set_option maxHeartbeats 4000000 in
theorem now51_last (own : Nat → Nat) (w : World) (g tg : Nat) (R : RA) (A : Option Addr) (c : Nat) (rows : List SC) (pps : List PP) (h : RefAt own w g tg R A c rows pps) (k : Nat) (s : SC) (hk : rows.length = k + 1) (hs : rows[k]? = some s) : Calls Try.prog 51 #[.pointer (some ⟨g, 0, none⟩)] w fun e w' => e = .returned (.int .i64 (if s.st = 1 then (k : Int) else -1)) ∧ w = w' := by
  have hlen0 : 0 < rows.length := by omega
  have hmx := h.max
  obtain ⟨gs, rfl, -, -, hog, cur, hcur⟩ := kS_ptr h.hr hlen0
  obtain ⟨x0, x1, x2, x3, x4, xf⟩ := kS_at h.hr k hs
  obtain ⟨n, hn⟩ : ∃ n, n = rows.length := ⟨_, rfl⟩
  have q3 : w.cell? ⟨g, 3, none⟩ = some (.slice (some ⟨gs, 0, none⟩) n c) := by rw [hn]; exact blk_at h.hb 3 rfl
  rw [← hn] at hk hmx
  have hn1 : (n : Int) - 1 = (k : Nat) := by omega
  clear h hn hlen0 hog hcur hs x0 x2 x3 x4 xf
  by_cases h1 : s.st = 1
  · rw [if_pos h1]
    have k1 : (s.st == 1) = true := by simpa using h1
    clear h1
    go_enter Try.func51, Try.ntmps51
    go_wp2_with (fail)
    go_ret
    exact ⟨rfl, rfl⟩
  · rw [if_neg h1]
    have k1 : (s.st == 1) = false := by simpa using h1
    clear h1
    go_enter Try.func51, Try.ntmps51
    go_wp2_with (fail)
    go_ret
    exact ⟨rfl, rfl⟩
theorem last_at {rows : List SC} {k : Nat} {s : SC} (hk : rows.length = k + 1) (hs : rows[k]? = some s) : rows.getLast? = some s := by
  rw [List.getLast?_eq_getElem?, hk]
  exact hs
theorem now51 (own : Nat → Nat) (w : World) (g tg : Nat) (R : RA) (A : Option Addr) (c : Nat) (rows : List SC) (pps : List PP) (h : RefAt own w g tg R A c rows pps) : Calls Try.prog 51 #[.pointer (some ⟨g, 0, none⟩)] w fun e w' => e = .returned (.int .i64 R.now) ∧ w = w' := by
  by_cases hn : rows = []
  · have : R.now = -1 := by
      unfold RA.now
      rw [← h.es, hn]
      rfl
    rw [this]
    exact now51_nil own w g tg R A c rows pps h hn
  · obtain ⟨k, hk⟩ : ∃ k, rows.length = k + 1 := ⟨rows.length - 1, by have := List.length_pos_iff.2 hn; omega⟩
    obtain ⟨s, hs⟩ : ∃ s, rows[k]? = some s := ⟨_, List.getElem?_eq_getElem (by omega)⟩
    have hl := last_at hk hs
    have : R.now = if s.st = 1 then (k : Int) else -1 := by
      unfold RA.now
      rw [← h.es, List.getLast?_map, hl, List.length_map, hk]
      by_cases h1 : s.st = 1
      · rw [if_pos (by rw [Option.map_some, h1]), if_pos h1]; omega
      · rw [if_neg (fun e => h1 (by injection e)), if_neg h1]
    rw [this]
    exact now51_last own w g tg R A c rows pps h k _ hk hs

def RA.place (R : RA) (id : Int) : Int := if id < R.first then -1 else if R.first + (R.sts.length : Int) ≤ id then -1 else id - R.first
def RA.status (R : RA) (id : Int) : Int := if R.place id < 0 then 0 else R.sts.getD (R.place id).toNat 0
set_option maxRecDepth 100000 in
set_option maxHeartbeats 4000000 in
theorem place54_1 (own : Nat → Nat) (w : World) (g tg : Nat) (R : RA) (A : Option Addr) (c : Nat) (rows : List SC) (pps : List PP) (h : RefAt own w g tg R A c rows pps) (id : Int) (hi : id < R.first) : Calls Try.prog 54 #[.pointer (some ⟨g, 0, none⟩), .int .i64 id] w fun e w' => e = .returned (.int .i64 (-1)) ∧ Upd (fun _ => False) own w own w' := by
  have hmx := h.max
  have hf1 := h.ok.f1
  have hf2 := h.ok.f2
  rw [← h.len] at hf2
  obtain ⟨n, hn⟩ : ∃ n, n = rows.length := ⟨_, rfl⟩
  have q1 : w.cell? ⟨g, 1, none⟩ = some (.int .i64 R.first) := blk_at h.hb 1 rfl
  have q3 : w.cell? ⟨g, 3, none⟩ = some (.slice A n c) := by rw [hn]; exact blk_at h.hb 3 rfl
  have fz : ∀ w1 : World, w1.drew.cell? ⟨g, 1, none⟩ = w1.cell? ⟨g, 1, none⟩ := fun _ => rfl
  rw [← hn] at hmx hf2 
  have k1 : decide (id < R.first) = true := decide_eq_true hi
  
  clear h hn fz
  go_enter Try.func54, Try.ntmps54
  go_upto_region 1 with (fail)
  refine start_ (n := 20) (S := (fun w' => w'.cell? ⟨g, 1, none⟩ = some (.int .i64 R.first) ∧ w'.cell? ⟨g, 3, none⟩ = some (.slice A n c))) (ds := []) #[false, false, false, false, false, false, false, false, false, false, false, false, false, false, false, false, false, false, false, false] (by kernel_rfl) rfl rfl ⟨(show w.drew.cell? _ = _ from q1), (show w.drew.cell? _ = _ from q3)⟩ (fun hHeld => ?_)
  refine pure_ (i := 0) (N := some 5) (v := ?_) (a' := ?_) #[true, false, false, false, false, false, false, false, false, false, false, false, false, false, false, false, false, false, false, false] rfl rfl (by kernel_rfl) (fun _ _ _ h => h) (Or.inl ⟨by rfl, ?_⟩) ?_ ?_
  rotate_left
  · intro w'
    go_simp
    with_reducible rfl
  rotate_left
  · simp only [Act.put, List.setIfInBounds_toArray, List.set_cons_zero, List.set_cons_succ]
    rfl
  refine pure_ (i := 1) (N := some 6) (v := ?_) (a' := ?_) #[true, true, false, false, false, false, false, false, false, false, false, false, false, false, false, false, false, false, false, false] rfl rfl (by kernel_rfl) (fun _ _ _ h => h) (Or.inl ⟨by rfl, ?_⟩) ?_ ?_
  rotate_left
  · intro w'
    go_simp
    with_reducible rfl
  rotate_left
  · simp only [Act.put, List.setIfInBounds_toArray, List.set_cons_zero, List.set_cons_succ]
    rfl
  refine pure_ (i := 2) (N := some 7) (v := ?_) (a' := ?_) #[true, true, true, false, false, false, false, false, false, false, false, false, false, false, false, false, false, false, false, false] rfl rfl (by kernel_rfl) (fun _ _ _ h => h) (Or.inl ⟨by rfl, ?_⟩) ?_ ?_
  rotate_left
  · intro w'
    go_simp
    with_reducible rfl
  rotate_left
  · simp only [Act.put, List.setIfInBounds_toArray, List.set_cons_zero, List.set_cons_succ]
    rfl
  refine pure_ (i := 3) (N := some 8) (v := ?_) (a' := ?_) #[true, true, true, true, false, false, false, false, false, false, false, false, false, false, false, false, false, false, false, false] rfl rfl (by kernel_rfl) (fun _ _ _ h => h) (Or.inl ⟨by rfl, ?_⟩) ?_ ?_
  rotate_left
  · intro w'
    go_simp
    with_reducible rfl
  rotate_left
  · simp only [Act.put, List.setIfInBounds_toArray, List.set_cons_zero, List.set_cons_succ]
    rfl
  refine take_ (i := 4) (N := some 9) (v := ?_) (a' := ?_) #[true, true, true, true, true, false, false, false, false, false, false, false, false, false, false, false, false, false, false, false] rfl rfl (by kernel_rfl) (fun _ _ _ h => h) (Or.inl ⟨by rfl, ?_⟩) hHeld ?_ ?_
  rotate_left
  · rintro w' ⟨s0, s1⟩
    go_simp
    with_reducible rfl
  rotate_left
  · simp only [Act.put, List.setIfInBounds_toArray, List.set_cons_zero, List.set_cons_succ]
    rfl
  refine pure_ (i := 5) (N := some 10) (v := ?_) (a' := ?_) #[true, true, true, true, true, true, false, false, false, false, false, false, false, false, false, false, false, false, false, false] rfl rfl (by kernel_rfl) (fun _ _ _ h => h) (Or.inl ⟨by rfl, ?_⟩) ?_ ?_
  rotate_left
  · intro w'
    go_simp
    with_reducible rfl
  rotate_left
  · simp only [Act.put, List.setIfInBounds_toArray, List.set_cons_zero, List.set_cons_succ]
    rfl
  refine pure_ (i := 6) (N := some 11) (v := ?_) (a' := ?_) #[true, true, true, true, true, true, true, false, false, false, false, false, false, false, false, false, false, false, false, false] rfl rfl (by kernel_rfl) (fun _ _ _ h => h) (Or.inl ⟨by rfl, ?_⟩) ?_ ?_
  rotate_left
  · intro w'
    go_simp
    with_reducible rfl
  rotate_left
  · simp only [Act.put, List.setIfInBounds_toArray, List.set_cons_zero, List.set_cons_succ]
    rfl
  refine pure_ (i := 7) (N := some 12) (v := undef) (a' := ?_) #[true, true, true, true, true, true, true, true, false, false, false, false, false, false, false, false, false, false, false, false] rfl rfl (by kernel_rfl) (fun _ _ _ h => h) (Or.inr ⟨by rfl, rfl⟩) ?_ ?_
  rotate_left
  · simp only [Act.put, List.setIfInBounds_toArray, List.set_cons_zero, List.set_cons_succ]
    rfl
  refine pure_ (i := 8) (N := some 13) (v := undef) (a' := ?_) #[true, true, true, true, true, true, true, true, true, false, false, false, false, false, false, false, false, false, false, false] rfl rfl (by kernel_rfl) (fun _ _ _ h => h) (Or.inr ⟨by rfl, rfl⟩) ?_ ?_
  rotate_left
  · simp only [Act.put, List.setIfInBounds_toArray, List.set_cons_zero, List.set_cons_succ]
    rfl
  refine pure_ (i := 9) (N := some 14) (v := undef) (a' := ?_) #[true, true, true, true, true, true, true, true, true, true, false, false, false, false, false, false, false, false, false, false] rfl rfl (by kernel_rfl) (fun _ _ _ h => h) (Or.inr ⟨by rfl, rfl⟩) ?_ ?_
  rotate_left
  · simp only [Act.put, List.setIfInBounds_toArray, List.set_cons_zero, List.set_cons_succ]
    rfl
  refine pure_ (i := 10) (N := some 15) (v := undef) (a' := ?_) #[true, true, true, true, true, true, true, true, true, true, true, false, false, false, false, false, false, false, false, false] rfl rfl (by kernel_rfl) (fun _ _ _ h => h) (Or.inr ⟨by rfl, rfl⟩) ?_ ?_
  rotate_left
  · simp only [Act.put, List.setIfInBounds_toArray, List.set_cons_zero, List.set_cons_succ]
    rfl
  refine pure_ (i := 11) (N := some 16) (v := undef) (a' := ?_) #[true, true, true, true, true, true, true, true, true, true, true, true, false, false, false, false, false, false, false, false] rfl rfl (by kernel_rfl) (fun _ _ _ h => h) (Or.inr ⟨by rfl, rfl⟩) ?_ ?_
  rotate_left
  · simp only [Act.put, List.setIfInBounds_toArray, List.set_cons_zero, List.set_cons_succ]
    rfl
  refine pure_ (i := 12) (N := some 17) (v := undef) (a' := ?_) #[true, true, true, true, true, true, true, true, true, true, true, true, true, false, false, false, false, false, false, false] rfl rfl (by kernel_rfl) (fun _ _ _ h => h) (Or.inr ⟨by rfl, rfl⟩) ?_ ?_
  rotate_left
  · simp only [Act.put, List.setIfInBounds_toArray, List.set_cons_zero, List.set_cons_succ]
    rfl
  refine pure_ (i := 13) (N := some 18) (v := undef) (a' := ?_) #[true, true, true, true, true, true, true, true, true, true, true, true, true, true, false, false, false, false, false, false] rfl rfl (by kernel_rfl) (fun _ _ _ h => h) (Or.inr ⟨by rfl, rfl⟩) ?_ ?_
  rotate_left
  · simp only [Act.put, List.setIfInBounds_toArray, List.set_cons_zero, List.set_cons_succ]
    rfl
  refine pure_ (i := 14) (N := some 19) (v := undef) (a' := ?_) #[true, true, true, true, true, true, true, true, true, true, true, true, true, true, true, false, false, false, false, false] rfl rfl (by kernel_rfl) (fun _ _ _ h => h) (Or.inr ⟨by rfl, rfl⟩) ?_ ?_
  rotate_left
  · simp only [Act.put, List.setIfInBounds_toArray, List.set_cons_zero, List.set_cons_succ]
    rfl
  refine pure_ (i := 15) (N := some 20) (v := undef) (a' := ?_) #[true, true, true, true, true, true, true, true, true, true, true, true, true, true, true, true, false, false, false, false] rfl rfl (by kernel_rfl) (fun _ _ _ h => h) (Or.inr ⟨by rfl, rfl⟩) ?_ ?_
  rotate_left
  · simp only [Act.put, List.setIfInBounds_toArray, List.set_cons_zero, List.set_cons_succ]
    rfl
  refine pure_ (i := 16) (N := some 21) (v := undef) (a' := ?_) #[true, true, true, true, true, true, true, true, true, true, true, true, true, true, true, true, true, false, false, false] rfl rfl (by kernel_rfl) (fun _ _ _ h => h) (Or.inr ⟨by rfl, rfl⟩) ?_ ?_
  rotate_left
  · simp only [Act.put, List.setIfInBounds_toArray, List.set_cons_zero, List.set_cons_succ]
    rfl
  refine pure_ (i := 17) (N := some 22) (v := undef) (a' := ?_) #[true, true, true, true, true, true, true, true, true, true, true, true, true, true, true, true, true, true, false, false] rfl rfl (by kernel_rfl) (fun _ _ _ h => h) (Or.inr ⟨by rfl, rfl⟩) ?_ ?_
  rotate_left
  · simp only [Act.put, List.setIfInBounds_toArray, List.set_cons_zero, List.set_cons_succ]
    rfl
  refine pure_ (i := 18) (N := some 23) (v := undef) (a' := ?_) #[true, true, true, true, true, true, true, true, true, true, true, true, true, true, true, true, true, true, true, false] rfl rfl (by kernel_rfl) (fun _ _ _ h => h) (Or.inr ⟨by rfl, rfl⟩) ?_ ?_
  rotate_left
  · simp only [Act.put, List.setIfInBounds_toArray, List.set_cons_zero, List.set_cons_succ]
    rfl
  refine pure_ (i := 19) (N := some 24) (v := ?_) (a' := ?_) #[true, true, true, true, true, true, true, true, true, true, true, true, true, true, true, true, true, true, true, true] rfl rfl (by kernel_rfl) (fun _ _ _ h => h) (Or.inl ⟨by rfl, ?_⟩) ?_ ?_
  rotate_left
  · intro w'
    go_simp
    with_reducible rfl
  rotate_left
  · simp only [Act.put, List.setIfInBounds_toArray, List.set_cons_zero, List.set_cons_succ]
    rfl
  refine done_ (by kernel_rfl) ?_
  go_wp2_with (fail)
  go_ret
  exact ⟨rfl, Upd.drew⟩
set_option maxRecDepth 100000 in
set_option maxHeartbeats 4000000 in
theorem place54_2 (own : Nat → Nat) (w : World) (g tg : Nat) (R : RA) (A : Option Addr) (c : Nat) (rows : List SC) (pps : List PP) (h : RefAt own w g tg R A c rows pps) (id : Int) (hi : ¬ id < R.first) (hj : R.first + (rows.length : Int) ≤ id) : Calls Try.prog 54 #[.pointer (some ⟨g, 0, none⟩), .int .i64 id] w fun e w' => e = .returned (.int .i64 (-1)) ∧ Upd (fun _ => False) own w own w' := by
  have hmx := h.max
  have hf1 := h.ok.f1
  have hf2 := h.ok.f2
  rw [← h.len] at hf2
  obtain ⟨n, hn⟩ : ∃ n, n = rows.length := ⟨_, rfl⟩
  have q1 : w.cell? ⟨g, 1, none⟩ = some (.int .i64 R.first) := blk_at h.hb 1 rfl
  have q3 : w.cell? ⟨g, 3, none⟩ = some (.slice A n c) := by rw [hn]; exact blk_at h.hb 3 rfl
  have fz : ∀ w1 : World, w1.drew.cell? ⟨g, 1, none⟩ = w1.cell? ⟨g, 1, none⟩ := fun _ => rfl
  rw [← hn] at hmx hf2 hj
  have k1 : decide (id < R.first) = false := decide_eq_false hi
  have k2 : decide (R.first + (n : Int) ≤ id) = true := decide_eq_true hj
  have kw : IntKind.i64.wrap (R.first + (n : Int)) = R.first + (n : Int) := by rw [IntKind.wrap_i64]; omega
  clear h hn fz
  go_enter Try.func54, Try.ntmps54
  go_upto_region 1 with (fail)
  refine start_ (n := 20) (S := (fun w' => w'.cell? ⟨g, 1, none⟩ = some (.int .i64 R.first) ∧ w'.cell? ⟨g, 3, none⟩ = some (.slice A n c))) (ds := []) #[false, false, false, false, false, false, false, false, false, false, false, false, false, false, false, false, false, false, false, false] (by kernel_rfl) rfl rfl ⟨(show w.drew.cell? _ = _ from q1), (show w.drew.cell? _ = _ from q3)⟩ (fun hHeld => ?_)
  refine pure_ (i := 0) (N := some 5) (v := ?_) (a' := ?_) #[true, false, false, false, false, false, false, false, false, false, false, false, false, false, false, false, false, false, false, false] rfl rfl (by kernel_rfl) (fun _ _ _ h => h) (Or.inl ⟨by rfl, ?_⟩) ?_ ?_
  rotate_left
  · intro w'
    go_simp
    with_reducible rfl
  rotate_left
  · simp only [Act.put, List.setIfInBounds_toArray, List.set_cons_zero, List.set_cons_succ]
    rfl
  refine pure_ (i := 1) (N := some 6) (v := ?_) (a' := ?_) #[true, true, false, false, false, false, false, false, false, false, false, false, false, false, false, false, false, false, false, false] rfl rfl (by kernel_rfl) (fun _ _ _ h => h) (Or.inl ⟨by rfl, ?_⟩) ?_ ?_
  rotate_left
  · intro w'
    go_simp
    with_reducible rfl
  rotate_left
  · simp only [Act.put, List.setIfInBounds_toArray, List.set_cons_zero, List.set_cons_succ]
    rfl
  refine pure_ (i := 2) (N := some 7) (v := ?_) (a' := ?_) #[true, true, true, false, false, false, false, false, false, false, false, false, false, false, false, false, false, false, false, false] rfl rfl (by kernel_rfl) (fun _ _ _ h => h) (Or.inl ⟨by rfl, ?_⟩) ?_ ?_
  rotate_left
  · intro w'
    go_simp
    with_reducible rfl
  rotate_left
  · simp only [Act.put, List.setIfInBounds_toArray, List.set_cons_zero, List.set_cons_succ]
    rfl
  refine pure_ (i := 3) (N := some 8) (v := ?_) (a' := ?_) #[true, true, true, true, false, false, false, false, false, false, false, false, false, false, false, false, false, false, false, false] rfl rfl (by kernel_rfl) (fun _ _ _ h => h) (Or.inl ⟨by rfl, ?_⟩) ?_ ?_
  rotate_left
  · intro w'
    go_simp
    with_reducible rfl
  rotate_left
  · simp only [Act.put, List.setIfInBounds_toArray, List.set_cons_zero, List.set_cons_succ]
    rfl
  refine take_ (i := 4) (N := some 9) (v := ?_) (a' := ?_) #[true, true, true, true, true, false, false, false, false, false, false, false, false, false, false, false, false, false, false, false] rfl rfl (by kernel_rfl) (fun _ _ _ h => h) (Or.inl ⟨by rfl, ?_⟩) hHeld ?_ ?_
  rotate_left
  · rintro w' ⟨s0, s1⟩
    go_simp
    with_reducible rfl
  rotate_left
  · simp only [Act.put, List.setIfInBounds_toArray, List.set_cons_zero, List.set_cons_succ]
    rfl
  refine pure_ (i := 5) (N := some 10) (v := ?_) (a' := ?_) #[true, true, true, true, true, true, false, false, false, false, false, false, false, false, false, false, false, false, false, false] rfl rfl (by kernel_rfl) (fun _ _ _ h => h) (Or.inl ⟨by rfl, ?_⟩) ?_ ?_
  rotate_left
  · intro w'
    go_simp
    with_reducible rfl
  rotate_left
  · simp only [Act.put, List.setIfInBounds_toArray, List.set_cons_zero, List.set_cons_succ]
    rfl
  refine pure_ (i := 6) (N := some 11) (v := ?_) (a' := ?_) #[true, true, true, true, true, true, true, false, false, false, false, false, false, false, false, false, false, false, false, false] rfl rfl (by kernel_rfl) (fun _ _ _ h => h) (Or.inl ⟨by rfl, ?_⟩) ?_ ?_
  rotate_left
  · intro w'
    go_simp
    with_reducible rfl
  rotate_left
  · simp only [Act.put, List.setIfInBounds_toArray, List.set_cons_zero, List.set_cons_succ]
    rfl
  refine pure_ (i := 7) (N := some 12) (v := ?_) (a' := ?_) #[true, true, true, true, true, true, true, true, false, false, false, false, false, false, false, false, false, false, false, false] rfl rfl (by kernel_rfl) (fun _ _ _ h => h) (Or.inl ⟨by rfl, ?_⟩) ?_ ?_
  rotate_left
  · intro w'
    go_simp
    with_reducible rfl
  rotate_left
  · simp only [Act.put, List.setIfInBounds_toArray, List.set_cons_zero, List.set_cons_succ]
    rfl
  refine pure_ (i := 8) (N := some 13) (v := ?_) (a' := ?_) #[true, true, true, true, true, true, true, true, true, false, false, false, false, false, false, false, false, false, false, false] rfl rfl (by kernel_rfl) (fun _ _ _ h => h) (Or.inl ⟨by rfl, ?_⟩) ?_ ?_
  rotate_left
  · intro w'
    go_simp
    with_reducible rfl
  rotate_left
  · simp only [Act.put, List.setIfInBounds_toArray, List.set_cons_zero, List.set_cons_succ]
    rfl
  refine pure_ (i := 9) (N := some 14) (v := ?_) (a' := ?_) #[true, true, true, true, true, true, true, true, true, true, false, false, false, false, false, false, false, false, false, false] rfl rfl (by kernel_rfl) (fun _ _ _ h => h) (Or.inl ⟨by rfl, ?_⟩) ?_ ?_
  rotate_left
  · intro w'
    go_simp
    with_reducible rfl
  rotate_left
  · simp only [Act.put, List.setIfInBounds_toArray, List.set_cons_zero, List.set_cons_succ]
    rfl
  refine pure_ (i := 10) (N := some 15) (v := ?_) (a' := ?_) #[true, true, true, true, true, true, true, true, true, true, true, false, false, false, false, false, false, false, false, false] rfl rfl (by kernel_rfl) (fun _ _ _ h => h) (Or.inl ⟨by rfl, ?_⟩) ?_ ?_
  rotate_left
  · intro w'
    go_simp
    with_reducible rfl
  rotate_left
  · simp only [Act.put, List.setIfInBounds_toArray, List.set_cons_zero, List.set_cons_succ]
    rfl
  refine take_ (i := 11) (N := some 16) (v := ?_) (a' := ?_) #[true, true, true, true, true, true, true, true, true, true, true, true, false, false, false, false, false, false, false, false] rfl rfl (by kernel_rfl) (fun _ _ _ h => h) (Or.inl ⟨by rfl, ?_⟩) hHeld ?_ ?_
  rotate_left
  · rintro w' ⟨s0, s1⟩
    go_simp
    with_reducible rfl
  rotate_left
  · simp only [Act.put, List.setIfInBounds_toArray, List.set_cons_zero, List.set_cons_succ]
    rfl
  refine pure_ (i := 12) (N := some 17) (v := ?_) (a' := ?_) #[true, true, true, true, true, true, true, true, true, true, true, true, true, false, false, false, false, false, false, false] rfl rfl (by kernel_rfl) (fun _ _ _ h => h) (Or.inl ⟨by rfl, ?_⟩) ?_ ?_
  rotate_left
  · intro w'
    go_simp
    with_reducible rfl
  rotate_left
  · simp only [Act.put, List.setIfInBounds_toArray, List.set_cons_zero, List.set_cons_succ]
    rfl
  refine pure_ (i := 13) (N := some 18) (v := ?_) (a' := ?_) #[true, true, true, true, true, true, true, true, true, true, true, true, true, true, false, false, false, false, false, false] rfl rfl (by kernel_rfl) (fun _ _ _ h => h) (Or.inl ⟨by rfl, ?_⟩) ?_ ?_
  rotate_left
  · intro w'
    go_simp
    with_reducible rfl
  rotate_left
  · simp only [Act.put, List.setIfInBounds_toArray, List.set_cons_zero, List.set_cons_succ]
    rfl
  refine pure_ (i := 14) (N := some 19) (v := ?_) (a' := ?_) #[true, true, true, true, true, true, true, true, true, true, true, true, true, true, true, false, false, false, false, false] rfl rfl (by kernel_rfl) (fun _ _ _ h => h) (Or.inl ⟨by rfl, ?_⟩) ?_ ?_
  rotate_left
  · intro w'
    go_simp
    with_reducible rfl
  rotate_left
  · simp only [Act.put, List.setIfInBounds_toArray, List.set_cons_zero, List.set_cons_succ]
    rfl
  refine take_ (i := 15) (N := some 20) (v := ?_) (a' := ?_) #[true, true, true, true, true, true, true, true, true, true, true, true, true, true, true, true, false, false, false, false] rfl rfl (by kernel_rfl) (fun _ _ _ h => h) (Or.inl ⟨by rfl, ?_⟩) hHeld ?_ ?_
  rotate_left
  · rintro w' ⟨s0, s1⟩
    go_simp
    with_reducible rfl
  rotate_left
  · simp only [Act.put, List.setIfInBounds_toArray, List.set_cons_zero, List.set_cons_succ]
    rfl
  refine pure_ (i := 16) (N := some 21) (v := ?_) (a' := ?_) #[true, true, true, true, true, true, true, true, true, true, true, true, true, true, true, true, true, false, false, false] rfl rfl (by kernel_rfl) (fun _ _ _ h => h) (Or.inl ⟨by rfl, ?_⟩) ?_ ?_
  rotate_left
  · intro w'
    go_simp
    with_reducible rfl
  rotate_left
  · simp only [Act.put, List.setIfInBounds_toArray, List.set_cons_zero, List.set_cons_succ]
    rfl
  refine pure_ (i := 17) (N := some 22) (v := ?_) (a' := ?_) #[true, true, true, true, true, true, true, true, true, true, true, true, true, true, true, true, true, true, false, false] rfl rfl (by kernel_rfl) (fun _ _ _ h => h) (Or.inl ⟨by rfl, ?_⟩) ?_ ?_
  rotate_left
  · intro w'
    go_simp
    with_reducible rfl
  rotate_left
  · simp only [Act.put, List.setIfInBounds_toArray, List.set_cons_zero, List.set_cons_succ]
    rfl
  refine pure_ (i := 18) (N := some 23) (v := ?_) (a' := ?_) #[true, true, true, true, true, true, true, true, true, true, true, true, true, true, true, true, true, true, true, false] rfl rfl (by kernel_rfl) (fun _ _ _ h => h) (Or.inl ⟨by rfl, ?_⟩) ?_ ?_
  rotate_left
  · intro w'
    go_simp
    with_reducible rfl
  rotate_left
  · simp only [Act.put, List.setIfInBounds_toArray, List.set_cons_zero, List.set_cons_succ]
    rfl
  refine pure_ (i := 19) (N := some 24) (v := ?_) (a' := ?_) #[true, true, true, true, true, true, true, true, true, true, true, true, true, true, true, true, true, true, true, true] rfl rfl (by kernel_rfl) (fun _ _ _ h => h) (Or.inl ⟨by rfl, ?_⟩) ?_ ?_
  rotate_left
  · intro w'
    go_simp
    with_reducible rfl
  rotate_left
  · simp only [Act.put, List.setIfInBounds_toArray, List.set_cons_zero, List.set_cons_succ]
    rfl
  refine done_ (by kernel_rfl) ?_
  go_wp2_with (fail)
  go_ret
  exact ⟨rfl, Upd.drew⟩
set_option maxRecDepth 100000 in
set_option maxHeartbeats 4000000 in
theorem place54_3 (own : Nat → Nat) (w : World) (g tg : Nat) (R : RA) (A : Option Addr) (c : Nat) (rows : List SC) (pps : List PP) (h : RefAt own w g tg R A c rows pps) (id : Int) (hi : ¬ id < R.first) (hj : ¬ R.first + (rows.length : Int) ≤ id) : Calls Try.prog 54 #[.pointer (some ⟨g, 0, none⟩), .int .i64 id] w fun e w' => e = .returned (.int .i64 (id - R.first)) ∧ Upd (fun _ => False) own w own w' := by
  have hmx := h.max
  have hf1 := h.ok.f1
  have hf2 := h.ok.f2
  rw [← h.len] at hf2
  obtain ⟨n, hn⟩ : ∃ n, n = rows.length := ⟨_, rfl⟩
  have q1 : w.cell? ⟨g, 1, none⟩ = some (.int .i64 R.first) := blk_at h.hb 1 rfl
  have q3 : w.cell? ⟨g, 3, none⟩ = some (.slice A n c) := by rw [hn]; exact blk_at h.hb 3 rfl
  have fz : ∀ w1 : World, w1.drew.cell? ⟨g, 1, none⟩ = w1.cell? ⟨g, 1, none⟩ := fun _ => rfl
  rw [← hn] at hmx hf2 hj
  have k1 : decide (id < R.first) = false := decide_eq_false hi
  have k2 : decide (R.first + (n : Int) ≤ id) = false := decide_eq_false hj
  have kw : IntKind.i64.wrap (R.first + (n : Int)) = R.first + (n : Int) := by rw [IntKind.wrap_i64]; omega
  clear h hn fz
  go_enter Try.func54, Try.ntmps54
  go_upto_region 1 with (fail)
  refine start_ (n := 20) (S := (fun w' => w'.cell? ⟨g, 1, none⟩ = some (.int .i64 R.first) ∧ w'.cell? ⟨g, 3, none⟩ = some (.slice A n c))) (ds := []) #[false, false, false, false, false, false, false, false, false, false, false, false, false, false, false, false, false, false, false, false] (by kernel_rfl) rfl rfl ⟨(show w.drew.cell? _ = _ from q1), (show w.drew.cell? _ = _ from q3)⟩ (fun hHeld => ?_)
  refine pure_ (i := 0) (N := some 5) (v := ?_) (a' := ?_) #[true, false, false, false, false, false, false, false, false, false, false, false, false, false, false, false, false, false, false, false] rfl rfl (by kernel_rfl) (fun _ _ _ h => h) (Or.inl ⟨by rfl, ?_⟩) ?_ ?_
  rotate_left
  · intro w'
    go_simp
    with_reducible rfl
  rotate_left
  · simp only [Act.put, List.setIfInBounds_toArray, List.set_cons_zero, List.set_cons_succ]
    rfl
  refine pure_ (i := 1) (N := some 6) (v := ?_) (a' := ?_) #[true, true, false, false, false, false, false, false, false, false, false, false, false, false, false, false, false, false, false, false] rfl rfl (by kernel_rfl) (fun _ _ _ h => h) (Or.inl ⟨by rfl, ?_⟩) ?_ ?_
  rotate_left
  · intro w'
    go_simp
    with_reducible rfl
  rotate_left
  · simp only [Act.put, List.setIfInBounds_toArray, List.set_cons_zero, List.set_cons_succ]
    rfl
  refine pure_ (i := 2) (N := some 7) (v := ?_) (a' := ?_) #[true, true, true, false, false, false, false, false, false, false, false, false, false, false, false, false, false, false, false, false] rfl rfl (by kernel_rfl) (fun _ _ _ h => h) (Or.inl ⟨by rfl, ?_⟩) ?_ ?_
  rotate_left
  · intro w'
    go_simp
    with_reducible rfl
  rotate_left
  · simp only [Act.put, List.setIfInBounds_toArray, List.set_cons_zero, List.set_cons_succ]
    rfl
  refine pure_ (i := 3) (N := some 8) (v := ?_) (a' := ?_) #[true, true, true, true, false, false, false, false, false, false, false, false, false, false, false, false, false, false, false, false] rfl rfl (by kernel_rfl) (fun _ _ _ h => h) (Or.inl ⟨by rfl, ?_⟩) ?_ ?_
  rotate_left
  · intro w'
    go_simp
    with_reducible rfl
  rotate_left
  · simp only [Act.put, List.setIfInBounds_toArray, List.set_cons_zero, List.set_cons_succ]
    rfl
  refine take_ (i := 4) (N := some 9) (v := ?_) (a' := ?_) #[true, true, true, true, true, false, false, false, false, false, false, false, false, false, false, false, false, false, false, false] rfl rfl (by kernel_rfl) (fun _ _ _ h => h) (Or.inl ⟨by rfl, ?_⟩) hHeld ?_ ?_
  rotate_left
  · rintro w' ⟨s0, s1⟩
    go_simp
    with_reducible rfl
  rotate_left
  · simp only [Act.put, List.setIfInBounds_toArray, List.set_cons_zero, List.set_cons_succ]
    rfl
  refine pure_ (i := 5) (N := some 10) (v := ?_) (a' := ?_) #[true, true, true, true, true, true, false, false, false, false, false, false, false, false, false, false, false, false, false, false] rfl rfl (by kernel_rfl) (fun _ _ _ h => h) (Or.inl ⟨by rfl, ?_⟩) ?_ ?_
  rotate_left
  · intro w'
    go_simp
    with_reducible rfl
  rotate_left
  · simp only [Act.put, List.setIfInBounds_toArray, List.set_cons_zero, List.set_cons_succ]
    rfl
  refine pure_ (i := 6) (N := some 11) (v := ?_) (a' := ?_) #[true, true, true, true, true, true, true, false, false, false, false, false, false, false, false, false, false, false, false, false] rfl rfl (by kernel_rfl) (fun _ _ _ h => h) (Or.inl ⟨by rfl, ?_⟩) ?_ ?_
  rotate_left
  · intro w'
    go_simp
    with_reducible rfl
  rotate_left
  · simp only [Act.put, List.setIfInBounds_toArray, List.set_cons_zero, List.set_cons_succ]
    rfl
  refine pure_ (i := 7) (N := some 12) (v := ?_) (a' := ?_) #[true, true, true, true, true, true, true, true, false, false, false, false, false, false, false, false, false, false, false, false] rfl rfl (by kernel_rfl) (fun _ _ _ h => h) (Or.inl ⟨by rfl, ?_⟩) ?_ ?_
  rotate_left
  · intro w'
    go_simp
    with_reducible rfl
  rotate_left
  · simp only [Act.put, List.setIfInBounds_toArray, List.set_cons_zero, List.set_cons_succ]
    rfl
  refine pure_ (i := 8) (N := some 13) (v := ?_) (a' := ?_) #[true, true, true, true, true, true, true, true, true, false, false, false, false, false, false, false, false, false, false, false] rfl rfl (by kernel_rfl) (fun _ _ _ h => h) (Or.inl ⟨by rfl, ?_⟩) ?_ ?_
  rotate_left
  · intro w'
    go_simp
    with_reducible rfl
  rotate_left
  · simp only [Act.put, List.setIfInBounds_toArray, List.set_cons_zero, List.set_cons_succ]
    rfl
  refine pure_ (i := 9) (N := some 14) (v := ?_) (a' := ?_) #[true, true, true, true, true, true, true, true, true, true, false, false, false, false, false, false, false, false, false, false] rfl rfl (by kernel_rfl) (fun _ _ _ h => h) (Or.inl ⟨by rfl, ?_⟩) ?_ ?_
  rotate_left
  · intro w'
    go_simp
    with_reducible rfl
  rotate_left
  · simp only [Act.put, List.setIfInBounds_toArray, List.set_cons_zero, List.set_cons_succ]
    rfl
  refine pure_ (i := 10) (N := some 15) (v := ?_) (a' := ?_) #[true, true, true, true, true, true, true, true, true, true, true, false, false, false, false, false, false, false, false, false] rfl rfl (by kernel_rfl) (fun _ _ _ h => h) (Or.inl ⟨by rfl, ?_⟩) ?_ ?_
  rotate_left
  · intro w'
    go_simp
    with_reducible rfl
  rotate_left
  · simp only [Act.put, List.setIfInBounds_toArray, List.set_cons_zero, List.set_cons_succ]
    rfl
  refine take_ (i := 11) (N := some 16) (v := ?_) (a' := ?_) #[true, true, true, true, true, true, true, true, true, true, true, true, false, false, false, false, false, false, false, false] rfl rfl (by kernel_rfl) (fun _ _ _ h => h) (Or.inl ⟨by rfl, ?_⟩) hHeld ?_ ?_
  rotate_left
  · rintro w' ⟨s0, s1⟩
    go_simp
    with_reducible rfl
  rotate_left
  · simp only [Act.put, List.setIfInBounds_toArray, List.set_cons_zero, List.set_cons_succ]
    rfl
  refine pure_ (i := 12) (N := some 17) (v := ?_) (a' := ?_) #[true, true, true, true, true, true, true, true, true, true, true, true, true, false, false, false, false, false, false, false] rfl rfl (by kernel_rfl) (fun _ _ _ h => h) (Or.inl ⟨by rfl, ?_⟩) ?_ ?_
  rotate_left
  · intro w'
    go_simp
    with_reducible rfl
  rotate_left
  · simp only [Act.put, List.setIfInBounds_toArray, List.set_cons_zero, List.set_cons_succ]
    rfl
  refine pure_ (i := 13) (N := some 18) (v := ?_) (a' := ?_) #[true, true, true, true, true, true, true, true, true, true, true, true, true, true, false, false, false, false, false, false] rfl rfl (by kernel_rfl) (fun _ _ _ h => h) (Or.inl ⟨by rfl, ?_⟩) ?_ ?_
  rotate_left
  · intro w'
    go_simp
    with_reducible rfl
  rotate_left
  · simp only [Act.put, List.setIfInBounds_toArray, List.set_cons_zero, List.set_cons_succ]
    rfl
  refine pure_ (i := 14) (N := some 19) (v := ?_) (a' := ?_) #[true, true, true, true, true, true, true, true, true, true, true, true, true, true, true, false, false, false, false, false] rfl rfl (by kernel_rfl) (fun _ _ _ h => h) (Or.inl ⟨by rfl, ?_⟩) ?_ ?_
  rotate_left
  · intro w'
    go_simp
    with_reducible rfl
  rotate_left
  · simp only [Act.put, List.setIfInBounds_toArray, List.set_cons_zero, List.set_cons_succ]
    rfl
  refine take_ (i := 15) (N := some 20) (v := ?_) (a' := ?_) #[true, true, true, true, true, true, true, true, true, true, true, true, true, true, true, true, false, false, false, false] rfl rfl (by kernel_rfl) (fun _ _ _ h => h) (Or.inl ⟨by rfl, ?_⟩) hHeld ?_ ?_
  rotate_left
  · rintro w' ⟨s0, s1⟩
    go_simp
    with_reducible rfl
  rotate_left
  · simp only [Act.put, List.setIfInBounds_toArray, List.set_cons_zero, List.set_cons_succ]
    rfl
  refine pure_ (i := 16) (N := some 21) (v := ?_) (a' := ?_) #[true, true, true, true, true, true, true, true, true, true, true, true, true, true, true, true, true, false, false, false] rfl rfl (by kernel_rfl) (fun _ _ _ h => h) (Or.inl ⟨by rfl, ?_⟩) ?_ ?_
  rotate_left
  · intro w'
    go_simp
    with_reducible rfl
  rotate_left
  · simp only [Act.put, List.setIfInBounds_toArray, List.set_cons_zero, List.set_cons_succ]
    rfl
  refine pure_ (i := 17) (N := some 22) (v := ?_) (a' := ?_) #[true, true, true, true, true, true, true, true, true, true, true, true, true, true, true, true, true, true, false, false] rfl rfl (by kernel_rfl) (fun _ _ _ h => h) (Or.inl ⟨by rfl, ?_⟩) ?_ ?_
  rotate_left
  · intro w'
    go_simp
    with_reducible rfl
  rotate_left
  · simp only [Act.put, List.setIfInBounds_toArray, List.set_cons_zero, List.set_cons_succ]
    rfl
  refine pure_ (i := 18) (N := some 23) (v := ?_) (a' := ?_) #[true, true, true, true, true, true, true, true, true, true, true, true, true, true, true, true, true, true, true, false] rfl rfl (by kernel_rfl) (fun _ _ _ h => h) (Or.inl ⟨by rfl, ?_⟩) ?_ ?_
  rotate_left
  · intro w'
    go_simp
    with_reducible rfl
  rotate_left
  · simp only [Act.put, List.setIfInBounds_toArray, List.set_cons_zero, List.set_cons_succ]
    rfl
  refine pure_ (i := 19) (N := some 24) (v := ?_) (a' := ?_) #[true, true, true, true, true, true, true, true, true, true, true, true, true, true, true, true, true, true, true, true] rfl rfl (by kernel_rfl) (fun _ _ _ h => h) (Or.inl ⟨by rfl, ?_⟩) ?_ ?_
  rotate_left
  · intro w'
    go_simp
    with_reducible rfl
  rotate_left
  · simp only [Act.put, List.setIfInBounds_toArray, List.set_cons_zero, List.set_cons_succ]
    rfl
  refine done_ (by kernel_rfl) ?_
  go_wp2_with (fail)
  go_ret
  exact ⟨rfl, Upd.drew⟩
theorem place54 (own : Nat → Nat) (w : World) (g tg : Nat) (R : RA) (A : Option Addr) (c : Nat) (rows : List SC) (pps : List PP) (h : RefAt own w g tg R A c rows pps) (id : Int) : Calls Try.prog 54 #[.pointer (some ⟨g, 0, none⟩), .int .i64 id] w fun e w' => e = .returned (.int .i64 (R.place id)) ∧ Upd (fun _ => False) own w own w' := by
  unfold RA.place
  by_cases hi : id < R.first
  · rw [if_pos hi]
    exact place54_1 own w g tg R A c rows pps h id hi
  · rw [if_neg hi]
    by_cases hj : R.first + (rows.length : Int) ≤ id
    · rw [if_pos (by rw [← h.len]; exact hj)]
      exact place54_2 own w g tg R A c rows pps h id hi hj
    · rw [if_neg (by rw [← h.len]; exact hj)]
      exact place54_3 own w g tg R A c rows pps h id hi hj
theorem Upd.row {own : Nat → Nat} {w : World} {tg gs : Nat} (hg : own gs = tg + 1) (p : Nat) (u : Value) : Upd (· = tg + 1) own w own (w.setCell ⟨gs, p, none⟩ u) := Upd.set (p := ⟨gs, p, none⟩) hg u
theorem RefAt.put {own : Nat → Nat} {w : World} {g tg : Nat} {R : RA} {gs c : Nat} {rows : List SC} {pps : List PP} (h : RefAt own w g tg R (some ⟨gs, 0, none⟩) c rows pps) {i j : Nat} {s s' : SC} (hs : rows[i]? = some s) (hj : j < 5) {u : Value} (he : s'.cs = s.cs.set j u) (sts : List Int) (kk : Nat)
    (e1 : (rows.set i s').map (·.st) = sts) (e2 : s'.id = s.id) (e3 : rows.length = i + 1 → s'.A = s.A ∧ s'.l = s.l ∧ s'.c = s.c ∧ s'.B = s.B ∧ s'.m = s.m ∧ s'.e = s.e ∧ s'.pk = kk) (e4 : kk ≤ R.ps.length) (e5 : i + 1 < rows.length → kk = R.pk) :
    RefAt own (w.setCell ⟨gs, i * 5 + j, none⟩ u) g tg ⟨R.n, R.first, R.sum, sts, R.ps, R.ts, kk⟩ (some ⟨gs, 0, none⟩) c (rows.set i s') pps := by
  have hi := (List.getElem?_eq_some_iff.1 hs).1
  obtain ⟨gs', hgs, -, -, hog, -, -⟩ := kS_ptr h.hr (by omega)
  injection hgs with hgs
  injection hgs with hgs
  subst hgs
  have hu : Upd (· = tg + 1) own w own (w.setCell ⟨gs, i * 5 + j, none⟩ u) := Upd.row hog _ _
  have hls : (rows.set i s').length = rows.length := List.length_set
  refine ⟨?_, ?_, e1, ?_, h.ep, ?_, ⟨h.ok.n1, h.ok.n2, h.ok.f1, ?_, h.ok.lt, h.ok.lm, e4⟩, h.og⟩
  · rw [hls]
    exact hu.blk h.hb (by rw [h.og]; omega)
  · rw [hls]
    exact kS_put h.hr i j hj hs u he
  · intro k q hq
    rw [List.getElem?_set] at hq
    by_cases hk : i = k
    · subst hk
      rw [if_pos rfl, if_pos hi] at hq
      injection hq with hq
      subst hq
      rw [e2]
      exact h.ei i s hs
    · rw [if_neg hk] at hq
      exact h.ei k q hq
  · intro q hq
    have hq' : (rows.set i s')[rows.length - 1]? = some q := by rw [List.getLast?_eq_getElem?, hls] at hq; exact hq
    rw [List.getElem?_set] at hq'
    by_cases hk : i = rows.length - 1
    · rw [if_pos hk, if_pos hi] at hq'
      injection hq' with hq'
      subst hq'
      obtain ⟨f1, f2, f3, f4, f5, f6, f7⟩ := e3 (by omega)
      have hL := (h.hl s (by rw [List.getLast?_eq_getElem?, ← hk]; exact hs)).upd (T := (· = tg + 1)) (by omega) (by omega) (by omega) hu
      refine ⟨?_, ?_, f7⟩
      · rw [f1, f2, f3]; exact hL.hp
      · rw [f4, f5, f6]; exact hL.ht
    · rw [if_neg hk] at hq'
      have hL := (h.hl q (by rw [List.getLast?_eq_getElem?]; exact hq')).upd (T := (· = tg + 1)) (by omega) (by omega) (by omega) hu
      refine ⟨hL.hp, hL.ht, ?_⟩
      rw [hL.hk]
      show (R.pk : Int) = (kk : Int)
      rw [e5 (by omega)]
  · rw [show sts.length = R.sts.length by rw [← e1, List.length_map, hls, h.len]]
    exact h.ok.f2
theorem RefAt.setSt {own : Nat → Nat} {w : World} {g tg : Nat} {R : RA} {gs c : Nat} {rows : List SC} {pps : List PP} (h : RefAt own w g tg R (some ⟨gs, 0, none⟩) c rows pps) {i : Nat} {s : SC} (hs : rows[i]? = some s) (v : Int) :
    RefAt own (w.setCell ⟨gs, i * 5 + 1, none⟩ (.int .i64 v)) g tg ⟨R.n, R.first, R.sum, R.sts.set i v, R.ps, R.ts, R.pk⟩ (some ⟨gs, 0, none⟩) c (rows.set i ⟨s.id, v, s.A, s.l, s.c, s.B, s.m, s.e, s.pk⟩) pps :=
  h.put hs (by decide) (by rfl) _ _ (by rw [List.map_set, h.es]) rfl (fun hl => ⟨rfl, rfl, rfl, rfl, rfl, rfl, (h.hl s (last_at hl hs)).hk⟩) h.ok.lp (fun _ => rfl)
theorem RefAt.setPk {own : Nat → Nat} {w : World} {g tg : Nat} {R : RA} {gs c : Nat} {rows : List SC} {pps : List PP} (h : RefAt own w g tg R (some ⟨gs, 0, none⟩) c rows pps) {i : Nat} {s : SC} (hs : rows[i]? = some s) (hl : rows.length = i + 1) (v : Nat) (hv : v ≤ R.ps.length) :
    RefAt own (w.setCell ⟨gs, i * 5 + 4, none⟩ (.int .i64 v)) g tg ⟨R.n, R.first, R.sum, R.sts, R.ps, R.ts, v⟩ (some ⟨gs, 0, none⟩) c (rows.set i ⟨s.id, s.st, s.A, s.l, s.c, s.B, s.m, s.e, v⟩) pps :=
  h.put hs (by decide) (by rfl) _ _ (by
    rw [List.map_set, ← h.es]
    apply List.ext_getElem?
    intro t
    rw [List.getElem?_set]
    by_cases ht : i = t
    · subst ht
      rw [if_pos rfl, List.getElem?_map, hs, if_pos (by rw [List.length_map]; omega)]
      rfl
    · rw [if_neg ht]) rfl (fun _ => ⟨rfl, rfl, rfl, rfl, rfl, rfl, rfl⟩) hv (fun he => by omega)
theorem RA.place_cases (R : RA) (id : Int) : R.place id = -1 ∨ ∃ i : Nat, R.place id = i ∧ i < R.sts.length ∧ id = R.first + i := by
  unfold RA.place
  by_cases hi : id < R.first
  · exact .inl (if_pos hi)
  · rw [if_neg hi]
    by_cases hj : R.first + (R.sts.length : Int) ≤ id
    · exact .inl (if_pos hj)
    · rw [if_neg hj]
      exact .inr ⟨(id - R.first).toNat, by omega, by omega, by omega⟩
/-- The place's shot, in the open. -/
theorem RefAt.shot {own : Nat → Nat} {w : World} {g tg : Nat} {R : RA} {A : Option Addr} {c : Nat} {rows : List SC} {pps : List PP} (h : RefAt own w g tg R A c rows pps) (i : Nat) (hi : i < R.sts.length) :
    ∃ gs s, A = some ⟨gs, 0, none⟩ ∧ rows[i]? = some s ∧ s.st = R.sts.getD i 0 ∧ s.id = R.first + i ∧ own gs = tg + 1 := by
  have hlt : i < rows.length := by rw [h.len]; exact hi
  obtain ⟨gs, rfl, -, -, hog, -, -⟩ := kS_ptr h.hr (by omega)
  have hs : rows[i]? = some rows[i] := List.getElem?_eq_getElem hlt
  refine ⟨gs, rows[i], rfl, hs, ?_, h.ei i _ hs, hog⟩
  rw [← h.es, List.getD_eq_getElem?_getD, List.getElem?_map, hs]
  rfl
set_option maxRecDepth 100000 in
set_option maxHeartbeats 4000000 in
theorem status41_no (own : Nat → Nat) (w : World) (g tg : Nat) (R : RA) (A : Option Addr) (c : Nat) (rows : List SC) (pps : List PP) (h : RefAt own w g tg R A c rows pps) (id : Int) (hp : R.place id = -1) : Calls Try.prog 41 #[.pointer (some ⟨g, 0, none⟩), .int .i64 id] w fun e w' => e = .returned (.int .i64 0) ∧ Upd (fun _ => False) own w own w' := by
  have HP := place54 own w g tg R A c rows pps h id
  rw [hp] at HP
  have HP := Lib.hid HP
  clear h hp
  go_enter Try.func41, Try.ntmps41
  go_wp2_with (go_at_call 54; refine HP.out.mono ?_; rintro e w1 ⟨rfl, hu⟩)
  go_ret
  exact ⟨rfl, hu⟩
set_option maxRecDepth 100000 in
set_option maxHeartbeats 4000000 in
theorem status41_ok (own : Nat → Nat) (w : World) (g tg : Nat) (R : RA) (A : Option Addr) (c : Nat) (rows : List SC) (pps : List PP) (h : RefAt own w g tg R A c rows pps) (id : Int) (i : Nat) (hp : R.place id = i) (hi : i < R.sts.length) : Calls Try.prog 41 #[.pointer (some ⟨g, 0, none⟩), .int .i64 id] w fun e w' => e = .returned (.int .i64 (R.sts.getD i 0)) ∧ Upd (fun _ => False) own w own w' := by
  have HP := place54 own w g tg R A c rows pps h id
  rw [hp] at HP
  have HP := Lib.hid HP
  obtain ⟨gs, s, rfl, hs, hst, hid, hog⟩ := h.shot i hi
  have hlt : i < rows.length := by rw [h.len]; exact hi
  have HH := Lib.hid h
  have HS := Lib.hid hs
  have HL := Lib.hid hlt
  rw [← hst]
  clear h hp hi hs hst hid hog hlt
  go_enter Try.func41, Try.ntmps41
  go_upto_region 4 with (go_at_call 54; refine HP.out.mono ?_; rintro e w1 ⟨rfl, hu⟩)
  have h1 := HH.out.upd (T := fun _ => False) (fun h => h) (fun _ _ _ h => h) hu
  obtain ⟨x0, x1, x2, x3, x4, xf⟩ := kS_at h1.hr i HS.out
  obtain ⟨n, hn⟩ : ∃ n, n = rows.length := ⟨_, rfl⟩
  have q3 : w1.cell? ⟨g, 3, none⟩ = some (.slice (some ⟨gs, 0, none⟩) n c) := by rw [hn]; exact blk_at h1.hb 3 rfl
  have hin : i < n := by rw [hn]; exact HL.out
  clear h1 x0 x2 x3 x4 xf hn
  go_wp2_with (fail)
  go_ret
  exact ⟨rfl, hu⟩
theorem status41 (own : Nat → Nat) (w : World) (g tg : Nat) (R : RA) (A : Option Addr) (c : Nat) (rows : List SC) (pps : List PP) (h : RefAt own w g tg R A c rows pps) (id : Int) : Calls Try.prog 41 #[.pointer (some ⟨g, 0, none⟩), .int .i64 id] w fun e w' => e = .returned (.int .i64 (R.status id)) ∧ Upd (fun _ => False) own w own w' := by
  unfold RA.status
  rcases R.place_cases id with hp | ⟨i, hp, hi, -⟩
  · rw [hp, if_pos (by decide)]
    exact status41_no own w g tg R A c rows pps h id hp
  · rw [hp, if_neg (by omega), Int.toNat_natCast]
    exact status41_ok own w g tg R A c rows pps h id i hp hi
def RA.settle (R : RA) (id : Int) (ok : Bool) : Int × RA := if R.status id = 2 then (0, ⟨R.n, R.first, R.sum, R.sts.set (R.place id).toNat (if ok then 3 else 4), R.ps, R.ts, R.pk⟩) else (147, R)
set_option maxRecDepth 100000 in
set_option maxHeartbeats 4000000 in
theorem settle40_none (own : Nat → Nat) (w : World) (g tg : Nat) (R : RA) (A : Option Addr) (c : Nat) (rows : List SC) (pps : List PP) (h : RefAt own w g tg R A c rows pps) (id : Int) (ok : Bool) (hp : R.place id = -1) : Calls Try.prog 40 #[.pointer (some ⟨g, 0, none⟩), .int .i64 id, .bool ok] w fun e w' => e = .returned (.int .i64 147) ∧ Upd (fun _ => False) own w own w' := by
  have HP := place54 own w g tg R A c rows pps h id
  rw [hp] at HP
  have HP := Lib.hid HP
  clear h hp
  go_enter Try.func40, Try.ntmps40
  go_wp2_with (go_at_call 54; refine HP.out.mono ?_; rintro e w1 ⟨rfl, hu⟩)
  go_ret
  exact ⟨rfl, hu⟩
set_option maxRecDepth 100000 in
set_option maxHeartbeats 4000000 in
theorem settle40_no (own : Nat → Nat) (w : World) (g tg : Nat) (R : RA) (A : Option Addr) (c : Nat) (rows : List SC) (pps : List PP) (h : RefAt own w g tg R A c rows pps) (id : Int) (ok : Bool) (i : Nat) (hp : R.place id = i) (hi : i < R.sts.length) (h2 : ¬ R.sts.getD i 0 = 2) : Calls Try.prog 40 #[.pointer (some ⟨g, 0, none⟩), .int .i64 id, .bool ok] w fun e w' => e = .returned (.int .i64 147) ∧ Upd (fun _ => False) own w own w' := by
  have HP := place54 own w g tg R A c rows pps h id
  rw [hp] at HP
  have HP := Lib.hid HP
  obtain ⟨gs, s, rfl, hs, hst, hid, hog⟩ := h.shot i hi
  have hlt : i < rows.length := by rw [h.len]; exact hi
  have HH := Lib.hid h
  have HS := Lib.hid hs
  have HL := Lib.hid hlt
  have k1 : (s.st != 2) = true := by rw [hst]; simpa using h2
  clear h hp hi hs hst hid hog hlt h2
  go_enter Try.func40, Try.ntmps40
  go_upto_region 2 with (go_at_call 54; refine HP.out.mono ?_; rintro e w1 ⟨rfl, hu⟩)
  have h1 := HH.out.upd (T := fun _ => False) (fun h => h) (fun _ _ _ h => h) hu
  obtain ⟨x0, x1, x2, x3, x4, xf⟩ := kS_at h1.hr i HS.out
  obtain ⟨n, hn⟩ : ∃ n, n = rows.length := ⟨_, rfl⟩
  have q3 : w1.cell? ⟨g, 3, none⟩ = some (.slice (some ⟨gs, 0, none⟩) n c) := by rw [hn]; exact blk_at h1.hb 3 rfl
  have hin : i < n := by rw [hn]; exact HL.out
  clear h1 x0 x2 x3 x4 xf hn
  go_wp2_with (fail)
  go_ret
  exact ⟨rfl, hu⟩
set_option maxRecDepth 100000 in
set_option maxHeartbeats 4000000 in
theorem settle40_ok (own : Nat → Nat) (w : World) (g tg : Nat) (R : RA) (A : Option Addr) (c : Nat) (rows : List SC) (pps : List PP) (h : RefAt own w g tg R A c rows pps) (id : Int) (ok : Bool) (i : Nat) (hp : R.place id = i) (hi : i < R.sts.length) (h2 : R.sts.getD i 0 = 2) : Calls Try.prog 40 #[.pointer (some ⟨g, 0, none⟩), .int .i64 id, .bool ok] w fun e w' => e = .returned (.int .i64 0) ∧ RefTo own w g tg ⟨R.n, R.first, R.sum, R.sts.set i (if ok then 3 else 4), R.ps, R.ts, R.pk⟩ w' := by
  have HP := place54 own w g tg R A c rows pps h id
  rw [hp] at HP
  have HP := Lib.hid HP
  obtain ⟨gs, s, rfl, hs, hst, hid, hog⟩ := h.shot i hi
  have hlt : i < rows.length := by rw [h.len]; exact hi
  have HH := Lib.hid h
  have HS := Lib.hid hs
  have HL := Lib.hid hlt
  have HO := Lib.hid hog
  have k1 : (s.st != 2) = false := by rw [hst]; simpa using h2
  clear h hp hi hs hst hid hog hlt h2
  go_enter Try.func40, Try.ntmps40
  go_upto_region 2 with (go_at_call 54; refine HP.out.mono ?_; rintro e w1 ⟨rfl, hu⟩)
  have h1 := HH.out.upd (T := fun _ => False) (fun h => h) (fun _ _ _ h => h) hu
  obtain ⟨x0, x1, x2, x3, x4, xf⟩ := kS_at h1.hr i HS.out
  obtain ⟨n, hn⟩ : ∃ n, n = rows.length := ⟨_, rfl⟩
  have q3 : w1.cell? ⟨g, 3, none⟩ = some (.slice (some ⟨gs, 0, none⟩) n c) := by rw [hn]; exact blk_at h1.hb 3 rfl
  have hin : i < n := by rw [hn]; exact HL.out
  have z1 := xf (i * 5 + 1)
  have HU2 : Hid (Upd (Tg tg) own w own (w1.setCell ⟨gs, i * 5 + 1, none⟩ (.int .i64 4))) := Lib.hid ((hu.mono (fun _ h => h.elim)).then ((Upd.row HO.out _ _).mono (fun t ht => by unfold Tg; omega)))
  have H2 := Lib.hid (h1.setSt HS.out 4)
  have HS2 : Hid ((rows.set i ⟨s.id, 4, s.A, s.l, s.c, s.B, s.m, s.e, s.pk⟩)[i]? = some ⟨s.id, 4, s.A, s.l, s.c, s.B, s.m, s.e, s.pk⟩) := Lib.hid (List.getElem?_set_self HL.out)
  have HN : Hid (n = rows.length) := Lib.hid hn
  clear h1 x0 x2 x3 x4 xf hn
  cases ok
  · go_wp2_with (fail)
    go_ret
    exact ⟨rfl, own, _, _, _, _, H2.out, HU2.out⟩
  · go_upto_region 6 with (fail)
    clear q3 z1 x1 k1
    generalize w1.setCell ⟨gs, i * 5 + 1, none⟩ (.int .i64 4) = w2 at *
    have q3 : w2.cell? ⟨g, 3, none⟩ = some (.slice (some ⟨gs, 0, none⟩) n c) := by have := blk_at H2.out.hb 3 rfl; rw [List.length_set, ← HN.out] at this; exact this
    obtain ⟨x0, x1, x2, x3, x4, xf⟩ := kS_at H2.out.hr i HS2.out
    have z1 := xf (i * 5 + 1)
    clear x0 x2 x3 x4 xf
    have H3 := H2.out.setSt HS2.out 3
    simp only [List.set_set] at H3
    have HU3 : Hid (Upd (Tg tg) own w own (w2.setCell ⟨gs, i * 5 + 1, none⟩ (.int .i64 3))) := Lib.hid (HU2.out.then ((Upd.row HO.out _ _).mono (fun t ht => by unfold Tg; omega)))
    have H3 := Lib.hid H3
    go_wp2_with (fail)
    go_ret
    exact ⟨rfl, own, _, _, _, _, H3.out, HU3.out⟩
theorem RefTo.same {own : Nat → Nat} {w w' : World} {g tg : Nat} {R : RA} {A : Option Addr} {c : Nat} {rows : List SC} {pps : List PP} (h : RefAt own w g tg R A c rows pps) (hu : Upd (fun _ => False) own w own w') : RefTo own w g tg R w' :=
  ⟨own, A, c, rows, pps, h.upd (fun h => h) (fun _ _ _ h => h) hu, hu.mono (fun _ h => h.elim)⟩
theorem settle40 (own : Nat → Nat) (w : World) (g tg : Nat) (R : RA) (A : Option Addr) (c : Nat) (rows : List SC) (pps : List PP) (h : RefAt own w g tg R A c rows pps) (id : Int) (ok : Bool) : Calls Try.prog 40 #[.pointer (some ⟨g, 0, none⟩), .int .i64 id, .bool ok] w fun e w' => e = .returned (.int .i64 (R.settle id ok).1) ∧ RefTo own w g tg (R.settle id ok).2 w' := by
  unfold RA.settle
  rcases R.place_cases id with hp | ⟨i, hp, hi, -⟩
  · have hs : ¬ R.status id = 2 := by unfold RA.status; rw [hp]; simp
    rw [if_neg hs]
    exact (settle40_none own w g tg R A c rows pps h id ok hp).mono (fun e w' hh => ⟨hh.1, .same h hh.2⟩)
  · have hst : R.status id = R.sts.getD i 0 := by unfold RA.status; rw [hp, if_neg (by omega), Int.toNat_natCast]
    rw [hst, hp, Int.toNat_natCast]
    by_cases h2 : R.sts.getD i 0 = 2
    · rw [if_pos h2]
      exact settle40_ok own w g tg R A c rows pps h id ok i hp hi h2
    · rw [if_neg h2]
      exact (settle40_no own w g tg R A c rows pps h id ok i hp hi h2).mono (fun e w' hh => ⟨hh.1, .same h hh.2⟩)
def RA.setLast (R : RA) (v : Int) : RA := ⟨R.n, R.first, R.sum, R.sts.set (R.sts.length - 1) v, R.ps, R.ts, R.pk⟩
def RA.abort (R : RA) : Int × Int × RA := if R.now < 0 then (0, 146, R) else (R.first + R.now, 0, R.setLast 4)
theorem RA.now_cases (R : RA) : R.now = -1 ∨ ∃ k : Nat, R.now = k ∧ R.sts.length = k + 1 ∧ R.sts.getD k 0 = 1 := by
  unfold RA.now
  by_cases h : R.sts.getLast? = some 1
  · rw [if_pos h]
    rw [List.getLast?_eq_getElem?] at h
    have hl := (List.getElem?_eq_some_iff.1 h).1
    exact .inr ⟨R.sts.length - 1, by omega, by omega, by rw [List.getD_eq_getElem?_getD, h]; rfl⟩
  · exact .inl (if_neg h)
set_option maxRecDepth 100000 in
set_option maxHeartbeats 4000000 in
theorem abort39_no (own : Nat → Nat) (w : World) (g tg : Nat) (R : RA) (A : Option Addr) (c : Nat) (rows : List SC) (pps : List PP) (h : RefAt own w g tg R A c rows pps) (hp : R.now = -1) : Calls Try.prog 39 #[.pointer (some ⟨g, 0, none⟩)] w fun e w' => e = .returned (.tuple #[.int .i64 0, .int .i64 146]) ∧ Upd (fun _ => False) own w own w' := by
  have HP := now51 own w g tg R A c rows pps h
  rw [hp] at HP
  have HP := Lib.hid HP
  clear h hp
  go_enter Try.func39, Try.ntmps39
  go_wp2_with (go_at_call 51; refine HP.out.mono ?_; rintro e w1 ⟨rfl, rfl⟩)
  go_ret2
  exact ⟨rfl, Upd.refl _ _ _⟩
set_option maxRecDepth 100000 in
set_option maxHeartbeats 4000000 in
theorem abort39_ok (own : Nat → Nat) (w : World) (g tg : Nat) (R : RA) (A : Option Addr) (c : Nat) (rows : List SC) (pps : List PP) (h : RefAt own w g tg R A c rows pps) (i : Nat) (hp : R.now = i) (hi : R.sts.length = i + 1) : Calls Try.prog 39 #[.pointer (some ⟨g, 0, none⟩)] w fun e w' => e = .returned (.tuple #[.int .i64 (R.first + i), .int .i64 0]) ∧ RefTo own w g tg ⟨R.n, R.first, R.sum, R.sts.set i 4, R.ps, R.ts, R.pk⟩ w' := by
  have HP := now51 own w g tg R A c rows pps h
  rw [hp] at HP
  have HP := Lib.hid HP
  obtain ⟨gs, s, rfl, hs, hst, hid, hog⟩ := h.shot i (by omega)
  have hlt : i < rows.length := by rw [h.len]; omega
  obtain ⟨x0, x1, x2, x3, x4, xf⟩ := kS_at h.hr i hs
  obtain ⟨n, hn⟩ : ∃ n, n = rows.length := ⟨_, rfl⟩
  have q3 : w.cell? ⟨g, 3, none⟩ = some (.slice (some ⟨gs, 0, none⟩) n c) := by rw [hn]; exact blk_at h.hb 3 rfl
  have hin : i < n := by rw [hn]; exact hlt
  have z1 := xf (i * 5 + 1)
  have H2 := Lib.hid (h.setSt hs 4)
  have HU2 : Hid (Upd (Tg tg) own w own (w.setCell ⟨gs, i * 5 + 1, none⟩ (.int .i64 4))) := Lib.hid ((Upd.row hog _ _).mono (fun t ht => by unfold Tg; omega))
  have hgg : g ≠ gs := fun e => by have := h.og; rw [e, hog] at this; omega
  rw [hid] at x0
  clear h hp hs hst hid hog hlt hn x2 x3 x4 xf hi
  go_enter Try.func39, Try.ntmps39
  go_wp2_with (go_at_call 51; refine HP.out.mono ?_; rintro e w1 ⟨rfl, rfl⟩)
  go_ret2
  exact ⟨rfl, own, _, _, _, _, H2.out, HU2.out⟩
theorem abort39 (own : Nat → Nat) (w : World) (g tg : Nat) (R : RA) (A : Option Addr) (c : Nat) (rows : List SC) (pps : List PP) (h : RefAt own w g tg R A c rows pps) : Calls Try.prog 39 #[.pointer (some ⟨g, 0, none⟩)] w fun e w' => e = .returned (.tuple #[.int .i64 R.abort.1, .int .i64 R.abort.2.1]) ∧ RefTo own w g tg R.abort.2.2 w' := by
  unfold RA.abort RA.setLast
  rcases R.now_cases with hp | ⟨k, hp, hk, -⟩
  · rw [hp, if_pos (by decide)]
    exact (abort39_no own w g tg R A c rows pps h hp).mono (fun e w' hh => ⟨hh.1, .same h hh.2⟩)
  · rw [hp, if_neg (by omega), hk]
    exact abort39_ok own w g tg R A c rows pps h k hp hk
end Go.Proofs.Ytcbaiplamaopeaa.PPostShots
