/- The document's New, Trigger, Open. -/
import Derived.Test.YtcbaiplamaopeaaED
namespace Go.Proofs.Ytcbaiplamaopeaa.PPostShots
open Go.RowKit Go.Conc Go.Proofs.YtcbaiplamaopeaaW.PrintWords Go.Proofs.YtcbaiplamaopeaaW.PrintLast Go.Proofs.Ytcbaiplamaopeaa.PPost
set_option linter.unusedVariables false
set_option linter.unusedSimpArgs false

set_option maxRecDepth 100000 in
set_option maxHeartbeats 4000000 in
theorem new19_bad0 (tasks first sum : Int) (w : World) (h0 : decide (tasks < 1) = true) : Calls Try.prog 19 #[.int .i64 tasks, .int .i64 first, .int .u32 sum] w fun e w' => e = .returned (.tuple #[.pointer none, .int .i64 140]) ∧ w = w' := by
  go_enter Try.func19, Try.ntmps19
  go_wp2_with (fail)
  go_ret2
  exact ⟨rfl, rfl⟩
set_option maxRecDepth 100000 in
set_option maxHeartbeats 4000000 in
theorem new19_bad1 (tasks first sum : Int) (w : World) (h0 : decide (tasks < 1) = false) (h1 : decide (12 < tasks) = true) : Calls Try.prog 19 #[.int .i64 tasks, .int .i64 first, .int .u32 sum] w fun e w' => e = .returned (.tuple #[.pointer none, .int .i64 140]) ∧ w = w' := by
  go_enter Try.func19, Try.ntmps19
  go_wp2_with (fail)
  go_ret2
  exact ⟨rfl, rfl⟩
set_option maxRecDepth 100000 in
set_option maxHeartbeats 4000000 in
theorem new19_bad2 (tasks first sum : Int) (w : World) (h0 : decide (tasks < 1) = false) (h1 : decide (12 < tasks) = false) (h2 : decide (first < 1) = true) : Calls Try.prog 19 #[.int .i64 tasks, .int .i64 first, .int .u32 sum] w fun e w' => e = .returned (.tuple #[.pointer none, .int .i64 140]) ∧ w = w' := by
  go_enter Try.func19, Try.ntmps19
  go_wp2_with (fail)
  go_ret2
  exact ⟨rfl, rfl⟩
set_option maxRecDepth 100000 in
set_option maxHeartbeats 4000000 in
theorem new19_bad3 (tasks first sum : Int) (w : World) (h0 : decide (tasks < 1) = false) (h1 : decide (12 < tasks) = false) (h2 : decide (first < 1) = false) (h3 : decide (10000 < first) = true) : Calls Try.prog 19 #[.int .i64 tasks, .int .i64 first, .int .u32 sum] w fun e w' => e = .returned (.tuple #[.pointer none, .int .i64 140]) ∧ w = w' := by
  go_enter Try.func19, Try.ntmps19
  go_wp2_with (fail)
  go_ret2
  exact ⟨rfl, rfl⟩
theorem new19_no (tasks first sum : Int) (w : World) (h : tasks < 1 ∨ 12 < tasks ∨ first < 1 ∨ 10000 < first) : Calls Try.prog 19 #[.int .i64 tasks, .int .i64 first, .int .u32 sum] w fun e w' => e = .returned (.tuple #[.pointer none, .int .i64 140]) ∧ w = w' := by
  by_cases h0 : tasks < 1
  · exact new19_bad0 tasks first sum w (by simpa using h0)
  by_cases h1 : 12 < tasks
  · exact new19_bad1 tasks first sum w (by simpa using h0) (by simpa using h1)
  by_cases h2 : first < 1
  · exact new19_bad2 tasks first sum w (by simpa using h0) (by simpa using h1) (by simpa using h2)
  exact new19_bad3 tasks first sum w (by simpa using h0) (by simpa using h1) (by simpa using h2) (by simp; omega)
def RA.new (n : Nat) (first sum : Int) : RA := ⟨n, first, sum, [], [], [], 0⟩
set_option maxRecDepth 100000 in
set_option maxHeartbeats 4000000 in
theorem new19_ok (n : Nat) (first sum : Int) (own : Nat → Nat) (w : World) (tg : Nat) (h1 : 1 ≤ n) (h2 : n ≤ 12) (h3 : 1 ≤ first) (h4 : first ≤ 10000) :
    Calls Try.prog 19 #[.int .i64 n, .int .i64 first, .int .u32 sum] w fun e w' => ∃ g own', e = .returned (.tuple #[.pointer (some ⟨g, 0, none⟩), .int .i64 0]) ∧ Hid (RefAt own' w' g tg (RA.new n first sum) none 0 [] []) ∧ Hid (Upd (fun _ => False) own w own' w') := by
  have c0 : decide ((n : Int) < 1) = false := by simp; omega
  have c1 : decide (12 < (n : Int)) = false := by simp; omega
  have c2 : decide (first < 1) = false := by simp; omega
  have c3 : decide (10000 < first) = false := by simp; omega
  go_enter Try.func19, Try.ntmps19
  go_wp2_with (fail)
  go_ret2
  refine ⟨w.heap.size, fresh own w tg, rfl, Lib.hid ⟨blk_new w _, Kd.R_nil _ _ _ _ _, rfl, fun i s hs => by simp at hs, rfl, fun s hs => by simp at hs, ⟨h1, h2, h3, ?_, rfl, by simp [RA.new], Nat.le_refl _⟩, fresh_new (Nat.le_refl _)⟩, Lib.hid (Upd.alloc _ _)⟩
  show first + ((0 : Nat) : Int) ≤ 10000
  omega
def RA.trig (R : RA) : Int × Int × RA := if 0 ≤ R.now then (0, 141, R) else if 9999 < R.first + (R.sts.length : Int) then (0, 142, R) else (R.first + (R.sts.length : Int), 0, ⟨R.n, R.first, R.sum, R.sts ++ [1], [], [], 0⟩)
set_option maxRecDepth 100000 in
set_option maxHeartbeats 4000000 in
theorem trigger34_under (own : Nat → Nat) (w : World) (g tg : Nat) (R : RA) (A : Option Addr) (c : Nat) (rows : List SC) (pps : List PP) (h : RefAt own w g tg R A c rows pps) (hu : 0 ≤ R.now) : Calls Try.prog 34 #[.pointer (some ⟨g, 0, none⟩)] w fun e w' => e = .returned (.tuple #[.int .i64 0, .int .i64 141]) ∧ Upd (fun _ => False) own w own w' := by
  have HP := Lib.hid (now51 own w g tg R A c rows pps h)
  have hmx := h.max
  have hf1 := h.ok.f1
  have hf2 := h.ok.f2
  rw [← h.len] at hf2
  have HH := Lib.hid h
  obtain ⟨n, hn⟩ : ∃ n, n = rows.length := ⟨_, rfl⟩
  have q1 : w.cell? ⟨g, 1, none⟩ = some (.int .i64 R.first) := blk_at h.hb 1 rfl
  have q3 : w.cell? ⟨g, 3, none⟩ = some (.slice A n c) := by rw [hn]; exact blk_at h.hb 3 rfl
  rw [← hn] at hmx hf2  
  have kw : IntKind.i64.wrap (R.first + (n : Int)) = R.first + (n : Int) := by rw [IntKind.wrap_i64]; omega
  have k1 : decide (0 ≤ R.now) = true := decide_eq_true hu
  have Hn := Lib.hid hn
  clear h hn hu
  go_enter Try.func34, Try.ntmps34
  go_upto_region 2 with (go_at_call 51; refine HP.out.mono ?_; rintro e w1 ⟨rfl, rfl⟩)
  refine start_ (n := 11) (S := (fun w' => w'.cell? ⟨g, 1, none⟩ = some (.int .i64 R.first) ∧ w'.cell? ⟨g, 3, none⟩ = some (.slice A n c))) (ds := []) #[false, false, false, false, false, false, false, false, false, false, false] (by kernel_rfl) rfl rfl ⟨(show w.drew.cell? _ = _ from q1), (show w.drew.cell? _ = _ from q3)⟩ (fun hHeld => ?_)
  refine pure_ (i := 0) (N := some 8) (v := ?_) (a' := ?_) #[true, false, false, false, false, false, false, false, false, false, false] rfl rfl (by kernel_rfl) (fun _ _ _ h => h) (Or.inl ⟨by rfl, ?_⟩) ?_ ?_
  rotate_left
  · intro w'
    go_simp
    with_reducible rfl
  rotate_left
  · simp only [Act.put, List.setIfInBounds_toArray, List.set_cons_zero, List.set_cons_succ]
    rfl
  refine pure_ (i := 1) (N := some 9) (v := ?_) (a' := ?_) #[true, true, false, false, false, false, false, false, false, false, false] rfl rfl (by kernel_rfl) (fun _ _ _ h => h) (Or.inl ⟨by rfl, ?_⟩) ?_ ?_
  rotate_left
  · intro w'
    go_simp
    with_reducible rfl
  rotate_left
  · simp only [Act.put, List.setIfInBounds_toArray, List.set_cons_zero, List.set_cons_succ]
    rfl
  refine pure_ (i := 2) (N := some 10) (v := ?_) (a' := ?_) #[true, true, true, false, false, false, false, false, false, false, false] rfl rfl (by kernel_rfl) (fun _ _ _ h => h) (Or.inl ⟨by rfl, ?_⟩) ?_ ?_
  rotate_left
  · intro w'
    go_simp
    with_reducible rfl
  rotate_left
  · simp only [Act.put, List.setIfInBounds_toArray, List.set_cons_zero, List.set_cons_succ]
    rfl
  refine take_ (i := 3) (N := some 11) (v := ?_) (a' := ?_) #[true, true, true, true, false, false, false, false, false, false, false] rfl rfl (by kernel_rfl) (fun _ _ _ h => h) (Or.inl ⟨by rfl, ?_⟩) hHeld ?_ ?_
  rotate_left
  · rintro w' ⟨s0, s1⟩
    go_simp
    with_reducible rfl
  rotate_left
  · simp only [Act.put, List.setIfInBounds_toArray, List.set_cons_zero, List.set_cons_succ]
    rfl
  refine pure_ (i := 4) (N := some 12) (v := ?_) (a' := ?_) #[true, true, true, true, true, false, false, false, false, false, false] rfl rfl (by kernel_rfl) (fun _ _ _ h => h) (Or.inl ⟨by rfl, ?_⟩) ?_ ?_
  rotate_left
  · intro w'
    go_simp
    with_reducible rfl
  rotate_left
  · simp only [Act.put, List.setIfInBounds_toArray, List.set_cons_zero, List.set_cons_succ]
    rfl
  refine pure_ (i := 5) (N := some 13) (v := ?_) (a' := ?_) #[true, true, true, true, true, true, false, false, false, false, false] rfl rfl (by kernel_rfl) (fun _ _ _ h => h) (Or.inl ⟨by rfl, ?_⟩) ?_ ?_
  rotate_left
  · intro w'
    go_simp
    with_reducible rfl
  rotate_left
  · simp only [Act.put, List.setIfInBounds_toArray, List.set_cons_zero, List.set_cons_succ]
    rfl
  refine pure_ (i := 6) (N := some 14) (v := ?_) (a' := ?_) #[true, true, true, true, true, true, true, false, false, false, false] rfl rfl (by kernel_rfl) (fun _ _ _ h => h) (Or.inl ⟨by rfl, ?_⟩) ?_ ?_
  rotate_left
  · intro w'
    go_simp
    with_reducible rfl
  rotate_left
  · simp only [Act.put, List.setIfInBounds_toArray, List.set_cons_zero, List.set_cons_succ]
    rfl
  refine take_ (i := 7) (N := some 15) (v := ?_) (a' := ?_) #[true, true, true, true, true, true, true, true, false, false, false] rfl rfl (by kernel_rfl) (fun _ _ _ h => h) (Or.inl ⟨by rfl, ?_⟩) hHeld ?_ ?_
  rotate_left
  · rintro w' ⟨s0, s1⟩
    go_simp
    with_reducible rfl
  rotate_left
  · simp only [Act.put, List.setIfInBounds_toArray, List.set_cons_zero, List.set_cons_succ]
    rfl
  refine pure_ (i := 8) (N := some 16) (v := ?_) (a' := ?_) #[true, true, true, true, true, true, true, true, true, false, false] rfl rfl (by kernel_rfl) (fun _ _ _ h => h) (Or.inl ⟨by rfl, ?_⟩) ?_ ?_
  rotate_left
  · intro w'
    go_simp
    with_reducible rfl
  rotate_left
  · simp only [Act.put, List.setIfInBounds_toArray, List.set_cons_zero, List.set_cons_succ]
    rfl
  refine pure_ (i := 9) (N := some 17) (v := ?_) (a' := ?_) #[true, true, true, true, true, true, true, true, true, true, false] rfl rfl (by kernel_rfl) (fun _ _ _ h => h) (Or.inl ⟨by rfl, ?_⟩) ?_ ?_
  rotate_left
  · intro w'
    go_simp
    with_reducible rfl
  rotate_left
  · simp only [Act.put, List.setIfInBounds_toArray, List.set_cons_zero, List.set_cons_succ]
    rfl
  refine pure_ (i := 10) (N := some 5) (v := ?_) (a' := ?_) #[true, true, true, true, true, true, true, true, true, true, true] rfl rfl (by kernel_rfl) (fun _ _ _ h => h) (Or.inl ⟨by rfl, ?_⟩) ?_ ?_
  rotate_left
  · intro w'
    go_simp
    with_reducible rfl
  rotate_left
  · simp only [Act.put, List.setIfInBounds_toArray, List.set_cons_zero, List.set_cons_succ]
    rfl
  refine done_ (by kernel_rfl) ?_
  go_wp2_with (fail)
  go_ret2
  exact ⟨rfl, Upd.drew⟩
set_option maxRecDepth 100000 in
set_option maxHeartbeats 4000000 in
theorem trigger34_ids (own : Nat → Nat) (w : World) (g tg : Nat) (R : RA) (A : Option Addr) (c : Nat) (rows : List SC) (pps : List PP) (h : RefAt own w g tg R A c rows pps) (hu : ¬ 0 ≤ R.now) (hx : 9999 < R.first + (rows.length : Int)) : Calls Try.prog 34 #[.pointer (some ⟨g, 0, none⟩)] w fun e w' => e = .returned (.tuple #[.int .i64 0, .int .i64 142]) ∧ Upd (fun _ => False) own w own w' := by
  have HP := Lib.hid (now51 own w g tg R A c rows pps h)
  have hmx := h.max
  have hf1 := h.ok.f1
  have hf2 := h.ok.f2
  rw [← h.len] at hf2
  have HH := Lib.hid h
  obtain ⟨n, hn⟩ : ∃ n, n = rows.length := ⟨_, rfl⟩
  have q1 : w.cell? ⟨g, 1, none⟩ = some (.int .i64 R.first) := blk_at h.hb 1 rfl
  have q3 : w.cell? ⟨g, 3, none⟩ = some (.slice A n c) := by rw [hn]; exact blk_at h.hb 3 rfl
  rw [← hn] at hmx hf2 hx 
  have kw : IntKind.i64.wrap (R.first + (n : Int)) = R.first + (n : Int) := by rw [IntKind.wrap_i64]; omega
  have k1 : decide (0 ≤ R.now) = false := decide_eq_false hu
  have k2 : decide (9999 < R.first + (n : Int)) = true := decide_eq_true hx
  have Hn := Lib.hid hn
  clear h hn hu
  go_enter Try.func34, Try.ntmps34
  go_upto_region 2 with (go_at_call 51; refine HP.out.mono ?_; rintro e w1 ⟨rfl, rfl⟩)
  refine start_ (n := 11) (S := (fun w' => w'.cell? ⟨g, 1, none⟩ = some (.int .i64 R.first) ∧ w'.cell? ⟨g, 3, none⟩ = some (.slice A n c))) (ds := []) #[false, false, false, false, false, false, false, false, false, false, false] (by kernel_rfl) rfl rfl ⟨(show w.drew.cell? _ = _ from q1), (show w.drew.cell? _ = _ from q3)⟩ (fun hHeld => ?_)
  refine pure_ (i := 0) (N := some 8) (v := ?_) (a' := ?_) #[true, false, false, false, false, false, false, false, false, false, false] rfl rfl (by kernel_rfl) (fun _ _ _ h => h) (Or.inl ⟨by rfl, ?_⟩) ?_ ?_
  rotate_left
  · intro w'
    go_simp
    with_reducible rfl
  rotate_left
  · simp only [Act.put, List.setIfInBounds_toArray, List.set_cons_zero, List.set_cons_succ]
    rfl
  refine pure_ (i := 1) (N := some 9) (v := ?_) (a' := ?_) #[true, true, false, false, false, false, false, false, false, false, false] rfl rfl (by kernel_rfl) (fun _ _ _ h => h) (Or.inl ⟨by rfl, ?_⟩) ?_ ?_
  rotate_left
  · intro w'
    go_simp
    with_reducible rfl
  rotate_left
  · simp only [Act.put, List.setIfInBounds_toArray, List.set_cons_zero, List.set_cons_succ]
    rfl
  refine pure_ (i := 2) (N := some 10) (v := ?_) (a' := ?_) #[true, true, true, false, false, false, false, false, false, false, false] rfl rfl (by kernel_rfl) (fun _ _ _ h => h) (Or.inl ⟨by rfl, ?_⟩) ?_ ?_
  rotate_left
  · intro w'
    go_simp
    with_reducible rfl
  rotate_left
  · simp only [Act.put, List.setIfInBounds_toArray, List.set_cons_zero, List.set_cons_succ]
    rfl
  refine take_ (i := 3) (N := some 11) (v := ?_) (a' := ?_) #[true, true, true, true, false, false, false, false, false, false, false] rfl rfl (by kernel_rfl) (fun _ _ _ h => h) (Or.inl ⟨by rfl, ?_⟩) hHeld ?_ ?_
  rotate_left
  · rintro w' ⟨s0, s1⟩
    go_simp
    with_reducible rfl
  rotate_left
  · simp only [Act.put, List.setIfInBounds_toArray, List.set_cons_zero, List.set_cons_succ]
    rfl
  refine pure_ (i := 4) (N := some 12) (v := ?_) (a' := ?_) #[true, true, true, true, true, false, false, false, false, false, false] rfl rfl (by kernel_rfl) (fun _ _ _ h => h) (Or.inl ⟨by rfl, ?_⟩) ?_ ?_
  rotate_left
  · intro w'
    go_simp
    with_reducible rfl
  rotate_left
  · simp only [Act.put, List.setIfInBounds_toArray, List.set_cons_zero, List.set_cons_succ]
    rfl
  refine pure_ (i := 5) (N := some 13) (v := ?_) (a' := ?_) #[true, true, true, true, true, true, false, false, false, false, false] rfl rfl (by kernel_rfl) (fun _ _ _ h => h) (Or.inl ⟨by rfl, ?_⟩) ?_ ?_
  rotate_left
  · intro w'
    go_simp
    with_reducible rfl
  rotate_left
  · simp only [Act.put, List.setIfInBounds_toArray, List.set_cons_zero, List.set_cons_succ]
    rfl
  refine pure_ (i := 6) (N := some 14) (v := ?_) (a' := ?_) #[true, true, true, true, true, true, true, false, false, false, false] rfl rfl (by kernel_rfl) (fun _ _ _ h => h) (Or.inl ⟨by rfl, ?_⟩) ?_ ?_
  rotate_left
  · intro w'
    go_simp
    with_reducible rfl
  rotate_left
  · simp only [Act.put, List.setIfInBounds_toArray, List.set_cons_zero, List.set_cons_succ]
    rfl
  refine take_ (i := 7) (N := some 15) (v := ?_) (a' := ?_) #[true, true, true, true, true, true, true, true, false, false, false] rfl rfl (by kernel_rfl) (fun _ _ _ h => h) (Or.inl ⟨by rfl, ?_⟩) hHeld ?_ ?_
  rotate_left
  · rintro w' ⟨s0, s1⟩
    go_simp
    with_reducible rfl
  rotate_left
  · simp only [Act.put, List.setIfInBounds_toArray, List.set_cons_zero, List.set_cons_succ]
    rfl
  refine pure_ (i := 8) (N := some 16) (v := ?_) (a' := ?_) #[true, true, true, true, true, true, true, true, true, false, false] rfl rfl (by kernel_rfl) (fun _ _ _ h => h) (Or.inl ⟨by rfl, ?_⟩) ?_ ?_
  rotate_left
  · intro w'
    go_simp
    with_reducible rfl
  rotate_left
  · simp only [Act.put, List.setIfInBounds_toArray, List.set_cons_zero, List.set_cons_succ]
    rfl
  refine pure_ (i := 9) (N := some 17) (v := ?_) (a' := ?_) #[true, true, true, true, true, true, true, true, true, true, false] rfl rfl (by kernel_rfl) (fun _ _ _ h => h) (Or.inl ⟨by rfl, ?_⟩) ?_ ?_
  rotate_left
  · intro w'
    go_simp
    with_reducible rfl
  rotate_left
  · simp only [Act.put, List.setIfInBounds_toArray, List.set_cons_zero, List.set_cons_succ]
    rfl
  refine pure_ (i := 10) (N := some 5) (v := ?_) (a' := ?_) #[true, true, true, true, true, true, true, true, true, true, true] rfl rfl (by kernel_rfl) (fun _ _ _ h => h) (Or.inl ⟨by rfl, ?_⟩) ?_ ?_
  rotate_left
  · intro w'
    go_simp
    with_reducible rfl
  rotate_left
  · simp only [Act.put, List.setIfInBounds_toArray, List.set_cons_zero, List.set_cons_succ]
    rfl
  refine done_ (by kernel_rfl) ?_
  go_wp2_with (fail)
  go_ret2
  exact ⟨rfl, Upd.drew⟩
set_option maxRecDepth 100000 in
set_option maxHeartbeats 4000000 in
theorem trigger34_ok (own : Nat → Nat) (w : World) (g tg : Nat) (R : RA) (A : Option Addr) (c : Nat) (rows : List SC) (pps : List PP) (h : RefAt own w g tg R A c rows pps) (hu : ¬ 0 ≤ R.now) (hx : ¬ 9999 < R.first + (rows.length : Int)) : Calls Try.prog 34 #[.pointer (some ⟨g, 0, none⟩)] w fun e w' => e = .returned (.tuple #[.int .i64 (R.first + (rows.length : Int)), .int .i64 0]) ∧ RefTo own w g tg ⟨R.n, R.first, R.sum, R.sts ++ [1], [], [], 0⟩ w' := by
  have HP := Lib.hid (now51 own w g tg R A c rows pps h)
  have hmx := h.max
  have hf1 := h.ok.f1
  have hf2 := h.ok.f2
  rw [← h.len] at hf2
  have HH := Lib.hid h
  obtain ⟨n, hn⟩ : ∃ n, n = rows.length := ⟨_, rfl⟩
  have q1 : w.cell? ⟨g, 1, none⟩ = some (.int .i64 R.first) := blk_at h.hb 1 rfl
  have q3 : w.cell? ⟨g, 3, none⟩ = some (.slice A n c) := by rw [hn]; exact blk_at h.hb 3 rfl
  rw [← hn] at hmx hf2 hx ⊢
  have kw : IntKind.i64.wrap (R.first + (n : Int)) = R.first + (n : Int) := by rw [IntKind.wrap_i64]; omega
  have k1 : decide (0 ≤ R.now) = false := decide_eq_false hu
  have k2 : decide (9999 < R.first + (n : Int)) = false := decide_eq_false hx
  have Hn := Lib.hid hn
  clear h hn hu
  go_enter Try.func34, Try.ntmps34
  go_upto_region 2 with (go_at_call 51; refine HP.out.mono ?_; rintro e w1 ⟨rfl, rfl⟩)
  refine start_ (n := 11) (S := (fun w' => w'.cell? ⟨g, 1, none⟩ = some (.int .i64 R.first) ∧ w'.cell? ⟨g, 3, none⟩ = some (.slice A n c))) (ds := []) #[false, false, false, false, false, false, false, false, false, false, false] (by kernel_rfl) rfl rfl ⟨(show w.drew.cell? _ = _ from q1), (show w.drew.cell? _ = _ from q3)⟩ (fun hHeld => ?_)
  refine pure_ (i := 0) (N := some 8) (v := ?_) (a' := ?_) #[true, false, false, false, false, false, false, false, false, false, false] rfl rfl (by kernel_rfl) (fun _ _ _ h => h) (Or.inl ⟨by rfl, ?_⟩) ?_ ?_
  rotate_left
  · intro w'
    go_simp
    with_reducible rfl
  rotate_left
  · simp only [Act.put, List.setIfInBounds_toArray, List.set_cons_zero, List.set_cons_succ]
    rfl
  refine pure_ (i := 1) (N := some 9) (v := ?_) (a' := ?_) #[true, true, false, false, false, false, false, false, false, false, false] rfl rfl (by kernel_rfl) (fun _ _ _ h => h) (Or.inl ⟨by rfl, ?_⟩) ?_ ?_
  rotate_left
  · intro w'
    go_simp
    with_reducible rfl
  rotate_left
  · simp only [Act.put, List.setIfInBounds_toArray, List.set_cons_zero, List.set_cons_succ]
    rfl
  refine pure_ (i := 2) (N := some 10) (v := ?_) (a' := ?_) #[true, true, true, false, false, false, false, false, false, false, false] rfl rfl (by kernel_rfl) (fun _ _ _ h => h) (Or.inl ⟨by rfl, ?_⟩) ?_ ?_
  rotate_left
  · intro w'
    go_simp
    with_reducible rfl
  rotate_left
  · simp only [Act.put, List.setIfInBounds_toArray, List.set_cons_zero, List.set_cons_succ]
    rfl
  refine take_ (i := 3) (N := some 11) (v := ?_) (a' := ?_) #[true, true, true, true, false, false, false, false, false, false, false] rfl rfl (by kernel_rfl) (fun _ _ _ h => h) (Or.inl ⟨by rfl, ?_⟩) hHeld ?_ ?_
  rotate_left
  · rintro w' ⟨s0, s1⟩
    go_simp
    with_reducible rfl
  rotate_left
  · simp only [Act.put, List.setIfInBounds_toArray, List.set_cons_zero, List.set_cons_succ]
    rfl
  refine pure_ (i := 4) (N := some 12) (v := ?_) (a' := ?_) #[true, true, true, true, true, false, false, false, false, false, false] rfl rfl (by kernel_rfl) (fun _ _ _ h => h) (Or.inl ⟨by rfl, ?_⟩) ?_ ?_
  rotate_left
  · intro w'
    go_simp
    with_reducible rfl
  rotate_left
  · simp only [Act.put, List.setIfInBounds_toArray, List.set_cons_zero, List.set_cons_succ]
    rfl
  refine pure_ (i := 5) (N := some 13) (v := ?_) (a' := ?_) #[true, true, true, true, true, true, false, false, false, false, false] rfl rfl (by kernel_rfl) (fun _ _ _ h => h) (Or.inl ⟨by rfl, ?_⟩) ?_ ?_
  rotate_left
  · intro w'
    go_simp
    with_reducible rfl
  rotate_left
  · simp only [Act.put, List.setIfInBounds_toArray, List.set_cons_zero, List.set_cons_succ]
    rfl
  refine pure_ (i := 6) (N := some 14) (v := ?_) (a' := ?_) #[true, true, true, true, true, true, true, false, false, false, false] rfl rfl (by kernel_rfl) (fun _ _ _ h => h) (Or.inl ⟨by rfl, ?_⟩) ?_ ?_
  rotate_left
  · intro w'
    go_simp
    with_reducible rfl
  rotate_left
  · simp only [Act.put, List.setIfInBounds_toArray, List.set_cons_zero, List.set_cons_succ]
    rfl
  refine take_ (i := 7) (N := some 15) (v := ?_) (a' := ?_) #[true, true, true, true, true, true, true, true, false, false, false] rfl rfl (by kernel_rfl) (fun _ _ _ h => h) (Or.inl ⟨by rfl, ?_⟩) hHeld ?_ ?_
  rotate_left
  · rintro w' ⟨s0, s1⟩
    go_simp
    with_reducible rfl
  rotate_left
  · simp only [Act.put, List.setIfInBounds_toArray, List.set_cons_zero, List.set_cons_succ]
    rfl
  refine pure_ (i := 8) (N := some 16) (v := ?_) (a' := ?_) #[true, true, true, true, true, true, true, true, true, false, false] rfl rfl (by kernel_rfl) (fun _ _ _ h => h) (Or.inl ⟨by rfl, ?_⟩) ?_ ?_
  rotate_left
  · intro w'
    go_simp
    with_reducible rfl
  rotate_left
  · simp only [Act.put, List.setIfInBounds_toArray, List.set_cons_zero, List.set_cons_succ]
    rfl
  refine pure_ (i := 9) (N := some 17) (v := ?_) (a' := ?_) #[true, true, true, true, true, true, true, true, true, true, false] rfl rfl (by kernel_rfl) (fun _ _ _ h => h) (Or.inl ⟨by rfl, ?_⟩) ?_ ?_
  rotate_left
  · intro w'
    go_simp
    with_reducible rfl
  rotate_left
  · simp only [Act.put, List.setIfInBounds_toArray, List.set_cons_zero, List.set_cons_succ]
    rfl
  refine pure_ (i := 10) (N := some 5) (v := ?_) (a' := ?_) #[true, true, true, true, true, true, true, true, true, true, true] rfl rfl (by kernel_rfl) (fun _ _ _ h => h) (Or.inl ⟨by rfl, ?_⟩) ?_ ?_
  rotate_left
  · intro w'
    go_simp
    with_reducible rfl
  rotate_left
  · simp only [Act.put, List.setIfInBounds_toArray, List.set_cons_zero, List.set_cons_succ]
    rfl
  refine done_ (by kernel_rfl) ?_
  clear hHeld q1
  have HD := Lib.hid (HH.out.upd (T := fun _ => False) (fun h => h) (fun _ _ _ h => h) (Upd.drew (S := fun _ => False) (own := own) (w := w)))
  have hB1 : Hid (Below w.heap.size w w.drew) := Lib.hid (Below.refl _ _).drew
  have q3' : w.drew.cell? ⟨g, 3, none⟩ = some (.slice A n c) := q3
  clear q3
  generalize w.drew = W at *
  have HOW : Hid (kS.R 113 W 0 (fun k_ => fresh own w (tg + 1) k_ = tg + 1) (.slice A n c) rows) := Lib.hid (by
    rw [Hn.out]
    exact Kd.R_mono (Kd.R_bound (R_upd HH.out.hr (S := fun _ => False) (fun h => h) (Upd.of_below hB1.out (tg + 1)))) (fun k_ hk => hk.1))
  have HGW := Lib.hid HD.out.hb
  rw [← Hn.out] at HGW
  go_upto_region 8 with (at_builtin; refine Kd.R_append kS (w0 := W) 0 (by rfl) (.tmp 28) (.tmp 31) 92 113 (.agg #[.int .i64 0, .int .i64 0, .slice none 0 0, .slice none 0 0, .int .i64 0]) 72 rfl Try.underlying92 info113 rfl (show 0 < 5 by decide) (by decide) (.slice A n c) rows ⟨R.first + (n : Int), 1, none, 0, 0, none, 0, 0, 0⟩ _ (fun k_ => fresh own w (tg + 1) k_ = tg + 1) (fun k_ => fresh own w (tg + 1) k_ = tg + 1 ∧ some k_ ≠ (Value.slice A n c).ownBlock) rfl rfl rfl (fun _ hk => hk) ?hfr HOW.out (Below.refl _ _) (Nat.zero_le _) ?hl ?_
                         case hfr => exact fun k_ hk => fresh_new (Nat.le_trans hB1.out.size hk)
                         case hl => rw [← Hn.out]; omega
                         intro v1 w2 hO hB2 hg hat
                         obtain ⟨A1, c1, hv1⟩ := Kd.R_slice hO
                         rw [List.length_append, ← Hn.out] at hv1
                         subst hv1
                         have HO2 := Lib.hid hO
                         have Hg2 := Lib.hid hg
                         have hne : some g ≠ (Value.slice A n c).ownBlock := fun e => by
                           have h1 := HOW.out.1 g e.symm
                           have h2 := HH.out.og
                           have h3 : fresh own w (tg + 1) g = own g := fresh_old (blk_lt HH.out.hb)
                           omega
                         have HG2 := Lib.hid (blk_grown HGW.out hg hne)
                         have y3 : w2.cell? ⟨g, 3, none⟩ = some (.slice A n c) := blk_at HG2.out 3 rfl
                         have z3 : w2.frozen? ⟨g, 3, none⟩ = false := blk_frozen HG2.out 3
                         clear hO hB2 hg hat hne)
  go_wp2_with (fail)
  go_ret2
  refine ⟨rfl, fresh own w (tg + 1), A1, c1, rows ++ [⟨R.first + (n : Int), 1, none, 0, 0, none, 0, 0, 0⟩], [], ?_⟩
  have hog : fresh own w (tg + 1) g = tg := (fresh_old (blk_lt HH.out.hb)).trans HH.out.og
  have hu3 : Upd (· = tg) (fresh own w (tg + 1)) w2 (fresh own w (tg + 1)) (w2.setCell ⟨g, 3, none⟩ (.slice A1 (n + 1) c1)) := Upd.set (p := ⟨g, 3, none⟩) hog _
  have hl1 : (rows ++ [(⟨R.first + (n : Int), 1, none, 0, 0, none, 0, 0, 0⟩ : SC)]).length = n + 1 := by rw [List.length_append, ← Hn.out]; rfl
  refine ⟨⟨?_, ?_, ?_, ?_, rfl, ?_, ⟨HH.out.ok.n1, HH.out.ok.n2, HH.out.ok.f1, ?_, rfl, by simp, Nat.le_refl _⟩, hog⟩, ?_⟩
  · rw [hl1]
    exact blk_put HG2.out 3 _ rfl
  · rw [hl1]
    exact R_upd HO2.out (by omega) hu3
  · rw [List.map_append, HH.out.es]
    rfl
  · intro i s hs
    by_cases hi : i < rows.length
    · rw [List.getElem?_append_left hi] at hs
      exact HH.out.ei i s hs
    · have := (List.getElem?_eq_some_iff.1 hs).1
      rw [hl1] at this
      have hin : i = n := by have := Hn.out; omega
      subst hin
      rw [List.getElem?_append_right (by have := Hn.out; omega), ← Hn.out, Nat.sub_self] at hs
      injection hs with hs
      rw [← hs]
  · intro s hs
    rw [List.getLast?_append, List.getLast?_singleton, Option.some_or] at hs
    injection hs with hs
    subst hs
    exact ⟨Kd.R_nil _ _ _ _ _, Kd.R_nil _ _ _ _ _, rfl⟩
  · show R.first + ((R.sts ++ [1]).length : Int) ≤ 10000
    rw [List.length_append, ← HH.out.len, ← Hn.out]
    simp only [List.length_singleton]
    omega
  · refine (Upd.of_below hB1.out (tg + 1)).then ((Upd.grown Hg2.out (fun k hk => ?_)).then (hu3.mono (fun t ht => ?_)))
    · have := HOW.out.1 k hk
      unfold Tg
      omega
    · unfold Tg
      omega
theorem trigger34 (own : Nat → Nat) (w : World) (g tg : Nat) (R : RA) (A : Option Addr) (c : Nat) (rows : List SC) (pps : List PP) (h : RefAt own w g tg R A c rows pps) : Calls Try.prog 34 #[.pointer (some ⟨g, 0, none⟩)] w fun e w' => e = .returned (.tuple #[.int .i64 R.trig.1, .int .i64 R.trig.2.1]) ∧ RefTo own w g tg R.trig.2.2 w' := by
  unfold RA.trig
  by_cases hu : 0 ≤ R.now
  · rw [if_pos hu]
    exact (trigger34_under own w g tg R A c rows pps h hu).mono (fun e w' hh => ⟨hh.1, .same h hh.2⟩)
  · rw [if_neg hu, ← h.len]
    by_cases hx : 9999 < R.first + (rows.length : Int)
    · rw [if_pos hx]
      exact (trigger34_ids own w g tg R A c rows pps h hu hx).mono (fun e w' hh => ⟨hh.1, .same h hh.2⟩)
    · rw [if_neg hx]
      exact trigger34_ok own w g tg R A c rows pps h hu hx
end Go.Proofs.Ytcbaiplamaopeaa.PPostShots
