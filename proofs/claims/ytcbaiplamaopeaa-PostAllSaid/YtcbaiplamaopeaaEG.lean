/- The document's Hand. -/
import Derived.Test.YtcbaiplamaopeaaEF
import Derived.Test.YtcbaiplamaopeaaEB
namespace Go.Proofs.Ytcbaiplamaopeaa.PPostShots
open Go.RowKit Go.Conc Go.Proofs.YtcbaiplamaopeaaW.PrintWords Go.Proofs.YtcbaiplamaopeaaW.PrintLast Go.Proofs.Ytcbaiplamaopeaa.PPost
set_option linter.unusedVariables false
set_option linter.unusedSimpArgs false

theorem SC.puts (s s' : SC) : (((((s.cs).set 0 (.int .i64 s'.id)).set 1 (.int .i64 s'.st)).set 2 (.slice s'.A s'.l s'.c)).set 3 (.slice s'.B s'.m s'.e)).set 4 (.int .i64 s'.pk) = s'.cs := rfl
theorem kS_put5 {w : World} {gs n c : Nat} {base : Nat} {ok : Nat → Prop} {rows : List SC} (h : kS.R 113 w base ok (.slice (some ⟨gs, 0, none⟩) n c) rows) (i : Nat) {s : SC} (s' : SC) (hs : rows[i]? = some s) :
    kS.R 113 (((((w.setCell ⟨gs, i * 5 + 0, none⟩ (.int .i64 s'.id)).setCell ⟨gs, i * 5 + 1, none⟩ (.int .i64 s'.st)).setCell ⟨gs, i * 5 + 2, none⟩ (.slice s'.A s'.l s'.c)).setCell ⟨gs, i * 5 + 3, none⟩ (.slice s'.B s'.m s'.e)).setCell ⟨gs, i * 5 + 4, none⟩ (.int .i64 s'.pk)) base ok (.slice (some ⟨gs, 0, none⟩) n c) (rows.set i s') := by
  have hi := (List.getElem?_eq_some_iff.1 hs).1
  have h0 := kS_put h i 0 (by decide) (s' := ⟨s'.id, s.st, s.A, s.l, s.c, s.B, s.m, s.e, s.pk⟩) hs (.int .i64 s'.id) rfl
  have h1 := kS_put h0 i 1 (by decide) (s' := ⟨s'.id, s'.st, s.A, s.l, s.c, s.B, s.m, s.e, s.pk⟩) (List.getElem?_set_self hi) (.int .i64 s'.st) rfl
  rw [List.set_set] at h1
  have h2 := kS_put h1 i 2 (by decide) (s' := ⟨s'.id, s'.st, s'.A, s'.l, s'.c, s.B, s.m, s.e, s.pk⟩) (List.getElem?_set_self hi) (.slice s'.A s'.l s'.c) rfl
  rw [List.set_set] at h2
  have h3 := kS_put h2 i 3 (by decide) (s' := ⟨s'.id, s'.st, s'.A, s'.l, s'.c, s'.B, s'.m, s'.e, s.pk⟩) (List.getElem?_set_self hi) (.slice s'.B s'.m s'.e) rfl
  rw [List.set_set] at h3
  have h4 := kS_put h3 i 4 (by decide) (s' := s') (List.getElem?_set_self hi) (.int .i64 s'.pk) rfl
  rw [List.set_set] at h4
  exact h4
theorem upd_row5 {own : Nat → Nat} {w : World} {tg gs : Nat} (hg : own gs = tg + 1) (i : Nat) (s' : SC) : Upd (· = tg + 1) own w own (((((w.setCell ⟨gs, i * 5 + 0, none⟩ (.int .i64 s'.id)).setCell ⟨gs, i * 5 + 1, none⟩ (.int .i64 s'.st)).setCell ⟨gs, i * 5 + 2, none⟩ (.slice s'.A s'.l s'.c)).setCell ⟨gs, i * 5 + 3, none⟩ (.slice s'.B s'.m s'.e)).setCell ⟨gs, i * 5 + 4, none⟩ (.int .i64 s'.pk)) :=
  ((((Upd.row hg _ _).then (Upd.row hg _ _)).then (Upd.row hg _ _)).then (Upd.row hg _ _)).then (Upd.row hg _ _)
theorem RefAt.put5 {own : Nat → Nat} {w : World} {g tg : Nat} {R : RA} {gs c : Nat} {rows : List SC} {pps : List PP} (R' : RA) (e1 : R'.n = R.n) (e2 : R'.first = R.first) (e3 : R'.sum = R.sum) (e4 : R'.sts = R.sts)
    (hb : w.heap[g]? = some (.cells #[.int .i64 R.n, .int .i64 R.first, .int .u32 R.sum, .slice (some ⟨gs, 0, none⟩) rows.length c] 94 (0, 0))) (hr : kS.R 113 w 0 (fun k => own k = tg + 1) (.slice (some ⟨gs, 0, none⟩) rows.length c) rows) (es : rows.map (·.st) = R.sts) (ei : ∀ (i : Nat) (s : SC), rows[i]? = some s → s.id = R.first + i)
    (og : own g = tg) {i : Nat} {s : SC} (s' : SC) (hs : rows[i]? = some s) (hl : rows.length = i + 1) (h1 : s'.id = s.id) (h2 : s'.st = s.st) (ep : pps.map (·.1) = R'.ps) (hL : LastAt own w tg s' pps R'.ts R'.pk) (ok : R'.Ok) :
    RefAt own (((((w.setCell ⟨gs, i * 5 + 0, none⟩ (.int .i64 s'.id)).setCell ⟨gs, i * 5 + 1, none⟩ (.int .i64 s'.st)).setCell ⟨gs, i * 5 + 2, none⟩ (.slice s'.A s'.l s'.c)).setCell ⟨gs, i * 5 + 3, none⟩ (.slice s'.B s'.m s'.e)).setCell ⟨gs, i * 5 + 4, none⟩ (.int .i64 s'.pk)) g tg R' (some ⟨gs, 0, none⟩) c (rows.set i s') pps ∧ Upd (· = tg + 1) own w own (((((w.setCell ⟨gs, i * 5 + 0, none⟩ (.int .i64 s'.id)).setCell ⟨gs, i * 5 + 1, none⟩ (.int .i64 s'.st)).setCell ⟨gs, i * 5 + 2, none⟩ (.slice s'.A s'.l s'.c)).setCell ⟨gs, i * 5 + 3, none⟩ (.slice s'.B s'.m s'.e)).setCell ⟨gs, i * 5 + 4, none⟩ (.int .i64 s'.pk)) := by
  obtain ⟨gs', hgs, -, -, hog, -, -⟩ := kS_ptr hr (by omega)
  injection hgs with hgs
  injection hgs with hgs
  subst hgs
  have hu := upd_row5 (w := w) hog i s'
  have hls : (rows.set i s').length = rows.length := List.length_set
  refine ⟨⟨?_, ?_, ?_, ?_, ep, ?_, ok, og⟩, hu⟩
  · rw [hls, e1, e2, e3]
    exact hu.blk hb (by rw [og]; omega)
  · rw [hls]
    exact kS_put5 hr i s' hs
  · rw [e4, ← es, List.map_set, h2]
    apply List.ext_getElem?
    intro t
    rw [List.getElem?_set]
    by_cases ht : i = t
    · subst ht
      rw [if_pos rfl, List.getElem?_map, hs, if_pos (by rw [List.length_map]; omega)]
      rfl
    · rw [if_neg ht]
  · intro k q hq
    rw [e2]
    rw [List.getElem?_set] at hq
    by_cases hk : i = k
    · subst hk
      rw [if_pos rfl, if_pos (by omega)] at hq
      injection hq with hq
      subst hq
      rw [h1]
      exact ei i s hs
    · rw [if_neg hk] at hq
      exact ei k q hq
  · intro q hq
    rw [List.getLast?_eq_getElem?, hls, hl, Nat.add_sub_cancel, List.getElem?_set_self (by omega)] at hq
    injection hq with hq
    subst hq
    exact hL.upd (T := (· = tg + 1)) (by omega) (by omega) (by omega) hu
/-- Is t among ts? -/
def inTs (ts : List Int) (t : Int) : Bool := inR ts t ts.length
theorem inR_succ {ts : List Int} {t : Int} {k : Nat} (h : inR ts t (k + 1) = false) : inR ts t k = false := by
  have : (inR ts t k || (ts.getD k 0 == t)) = false := h
  exact (Bool.or_eq_false_iff.1 this).1
theorem inR_false {ts : List Int} {t : Int} : ∀ {m k : Nat}, inR ts t m = false → k ≤ m → inR ts t k = false
  | 0, k, h, hk => by
    obtain rfl : k = 0 := by omega
    exact h
  | m + 1, k, h, hk => by
    by_cases he : k = m + 1
    · subst he; exact h
    · exact inR_false (inR_succ h) (by omega)
def RA.hand (R : RA) (id task : Int) (x : S40) : Int × RA :=
  if task < 0 ∨ (R.n : Int) ≤ task then (144, R) else if R.now < 0 ∨ ¬ R.first + R.now = id then (143, R) else if inTs R.ts task = true then (145, R) else (0, ⟨R.n, R.first, R.sum, R.sts, R.ps ++ [x], R.ts ++ [task], R.pk⟩)
set_option maxRecDepth 100000 in
set_option maxHeartbeats 4000000 in
theorem hand36_t1 (own : Nat → Nat) (w : World) (g tg : Nat) (R : RA) (A : Option Addr) (c : Nat) (rows : List SC) (pps : List PP) (h : RefAt own w g tg R A c rows pps) (id task : Int) (x : S40) (A1 : Option Addr) (c1 : Nat) (A2 : Option Addr) (c2 : Nat) (A3 : Option Addr) (c3 : Nat) (h1 : task < 0) :
    Calls Try.prog 36 #[.pointer (some ⟨g, 0, none⟩), .int .i64 id, .int .i64 task, .agg #[.int .i64 x.f0.f0, .slice A1 x.f0.f1.length c1, .slice A2 x.f1.length c2, .slice A3 x.f2.length c3]] w fun e w' => e = .returned (.int .i64 144) ∧ Hid (Below w.heap.size w w') := by
  have k1 : decide (task < 0) = true := decide_eq_true h1
  clear h h1
  go_enter Try.func36, Try.ntmps36
  go_wp2_with (fail)
  go_ret
  exact ⟨rfl, Lib.hid ((Below.refl _ _).alloc (Nat.le_refl _) _)⟩
set_option maxRecDepth 100000 in
set_option maxHeartbeats 4000000 in
theorem hand36_t2 (own : Nat → Nat) (w : World) (g tg : Nat) (R : RA) (A : Option Addr) (c : Nat) (rows : List SC) (pps : List PP) (h : RefAt own w g tg R A c rows pps) (id task : Int) (x : S40) (A1 : Option Addr) (c1 : Nat) (A2 : Option Addr) (c2 : Nat) (A3 : Option Addr) (c3 : Nat) (h1 : ¬ task < 0) (h2 : (R.n : Int) ≤ task) :
    Calls Try.prog 36 #[.pointer (some ⟨g, 0, none⟩), .int .i64 id, .int .i64 task, .agg #[.int .i64 x.f0.f0, .slice A1 x.f0.f1.length c1, .slice A2 x.f1.length c2, .slice A3 x.f2.length c3]] w fun e w' => e = .returned (.int .i64 144) ∧ Hid (Below w.heap.size w w') := by
  obtain ⟨t, ht⟩ : ∃ t, t = R.n := ⟨_, rfl⟩
  have q0 : (w.alloc (.cells #[.int .i64 x.f0.f0, .slice A1 x.f0.f1.length c1, .slice A2 x.f1.length c2, .slice A3 x.f2.length c3] 40)).cell? ⟨g, 0, none⟩ = some (.int .i64 (t : Nat)) := by rw [ht]; exact blk_at (blk_alloc h.hb _) 0 rfl
  have k1 : decide (task < 0) = false := decide_eq_false h1
  have k2 : decide ((t : Int) ≤ task) = true := decide_eq_true (by rw [ht]; exact h2)
  clear h h1 h2 ht
  go_enter Try.func36, Try.ntmps36
  go_wp2_with (fail)
  go_ret
  exact ⟨rfl, Lib.hid ((Below.refl _ _).alloc (Nat.le_refl _) _)⟩
set_option maxRecDepth 100000 in
set_option maxHeartbeats 4000000 in
theorem hand36_o1 (own : Nat → Nat) (w : World) (g tg : Nat) (R : RA) (A : Option Addr) (c : Nat) (rows : List SC) (pps : List PP) (h : RefAt own w g tg R A c rows pps) (id task : Int) (x : S40) (A1 : Option Addr) (c1 : Nat) (A2 : Option Addr) (c2 : Nat) (A3 : Option Addr) (c3 : Nat) (h1 : ¬ task < 0) (h2 : ¬ (R.n : Int) ≤ task) (hn : R.now = -1) :
    Calls Try.prog 36 #[.pointer (some ⟨g, 0, none⟩), .int .i64 id, .int .i64 task, .agg #[.int .i64 x.f0.f0, .slice A1 x.f0.f1.length c1, .slice A2 x.f1.length c2, .slice A3 x.f2.length c3]] w fun e w' => e = .returned (.int .i64 143) ∧ Hid (Below w.heap.size w w') := by
  have HP := now51 own (w.alloc (.cells #[.int .i64 x.f0.f0, .slice A1 x.f0.f1.length c1, .slice A2 x.f1.length c2, .slice A3 x.f2.length c3] 40)) g tg R A c rows pps (h.upd (T := fun _ => False) (fun h => h) (fun _ _ _ h => h) (Upd.box _))
  rw [hn] at HP
  have HP := Lib.hid HP
  obtain ⟨t, ht⟩ : ∃ t, t = R.n := ⟨_, rfl⟩
  have q0 : (w.alloc (.cells #[.int .i64 x.f0.f0, .slice A1 x.f0.f1.length c1, .slice A2 x.f1.length c2, .slice A3 x.f2.length c3] 40)).cell? ⟨g, 0, none⟩ = some (.int .i64 (t : Nat)) := by rw [ht]; exact blk_at (blk_alloc h.hb _) 0 rfl
  have k1 : decide (task < 0) = false := decide_eq_false h1
  have k2 : decide ((t : Int) ≤ task) = false := decide_eq_false (by rw [ht]; exact h2)
  clear h h1 h2 ht hn
  go_enter Try.func36, Try.ntmps36
  go_wp2_with (go_at_call 51; refine HP.out.mono ?_; rintro e w1 ⟨rfl, rfl⟩)
  go_ret
  exact ⟨rfl, Lib.hid ((Below.refl _ _).alloc (Nat.le_refl _) _)⟩
set_option maxRecDepth 100000 in
set_option maxHeartbeats 4000000 in
theorem hand36_o2 (own : Nat → Nat) (w : World) (g tg : Nat) (R : RA) (A : Option Addr) (c : Nat) (rows : List SC) (pps : List PP) (h : RefAt own w g tg R A c rows pps) (id : Int) (i : Nat) (task : Int) (x : S40) (A1 : Option Addr) (c1 : Nat) (A2 : Option Addr) (c2 : Nat) (A3 : Option Addr) (c3 : Nat) (h1 : ¬ task < 0) (h2 : ¬ (R.n : Int) ≤ task) (hn : R.now = i) (hi : R.sts.length = i + 1) (hid' : ¬ R.first + i = id) :
    Calls Try.prog 36 #[.pointer (some ⟨g, 0, none⟩), .int .i64 id, .int .i64 task, .agg #[.int .i64 x.f0.f0, .slice A1 x.f0.f1.length c1, .slice A2 x.f1.length c2, .slice A3 x.f2.length c3]] w fun e w' => e = .returned (.int .i64 143) ∧ Hid (Below w.heap.size w w') := by
  have HP := now51 own (w.alloc (.cells #[.int .i64 x.f0.f0, .slice A1 x.f0.f1.length c1, .slice A2 x.f1.length c2, .slice A3 x.f2.length c3] 40)) g tg R A c rows pps (h.upd (T := fun _ => False) (fun h => h) (fun _ _ _ h => h) (Upd.box _))
  rw [hn] at HP
  have HP := Lib.hid HP
  obtain ⟨gs, s, rfl, hs, hst, hid, hog⟩ := h.shot i (by omega)
  have hlt : i < rows.length := by rw [h.len]; omega
  have h0 := h.upd (T := fun _ => False) (fun h => h) (fun _ _ _ h => h) (Upd.box (w := w) (.cells #[.int .i64 x.f0.f0, .slice A1 x.f0.f1.length c1, .slice A2 x.f1.length c2, .slice A3 x.f2.length c3] 40))
  obtain ⟨x0, x1, x2, x3, x4, xf⟩ := kS_at h0.hr i hs
  obtain ⟨n, hnl⟩ : ∃ n, n = rows.length := ⟨_, rfl⟩
  have q3 : (w.alloc (.cells #[.int .i64 x.f0.f0, .slice A1 x.f0.f1.length c1, .slice A2 x.f1.length c2, .slice A3 x.f2.length c3] 40)).cell? ⟨g, 3, none⟩ = some (.slice (some ⟨gs, 0, none⟩) n c) := by rw [hnl]; exact blk_at h0.hb 3 rfl
  have hin : i < n := by rw [hnl]; exact hlt
  obtain ⟨t, ht⟩ : ∃ t, t = R.n := ⟨_, rfl⟩
  have q0 : (w.alloc (.cells #[.int .i64 x.f0.f0, .slice A1 x.f0.f1.length c1, .slice A2 x.f1.length c2, .slice A3 x.f2.length c3] 40)).cell? ⟨g, 0, none⟩ = some (.int .i64 (t : Nat)) := by rw [ht]; exact blk_at (blk_alloc h.hb _) 0 rfl
  have k1 : decide (task < 0) = false := decide_eq_false h1
  have k2 : decide ((t : Int) ≤ task) = false := decide_eq_false (by rw [ht]; exact h2)
  rw [hid] at x0
  have k3 : (R.first + (i : Int) != id) = true := by simpa using hid'
  clear h h0 hn hs hst hid hog hlt hnl hi hid' h1 h2 ht x1 x2 x3 x4 xf
  go_enter Try.func36, Try.ntmps36
  go_wp2_with (go_at_call 51; refine HP.out.mono ?_; rintro e w1 ⟨rfl, rfl⟩)
  go_ret
  exact ⟨rfl, Lib.hid ((Below.refl _ _).alloc (Nat.le_refl _) _)⟩
set_option maxRecDepth 100000 in
set_option maxHeartbeats 4000000 in
theorem hand36_tw (own : Nat → Nat) (w : World) (g tg : Nat) (R : RA) (A : Option Addr) (c : Nat) (rows : List SC) (pps : List PP) (h : RefAt own w g tg R A c rows pps) (i : Nat) (task : Int) (x : S40) (A1 : Option Addr) (c1 : Nat) (A2 : Option Addr) (c2 : Nat) (A3 : Option Addr) (c3 : Nat) (h1 : ¬ task < 0) (h2 : ¬ (R.n : Int) ≤ task) (hn : R.now = i) (hi : R.sts.length = i + 1) (hu : R.sts.getD i 0 = 1) (hin0 : inTs R.ts task = true) :
    Calls Try.prog 36 #[.pointer (some ⟨g, 0, none⟩), .int .i64 (R.first + i), .int .i64 task, .agg #[.int .i64 x.f0.f0, .slice A1 x.f0.f1.length c1, .slice A2 x.f1.length c2, .slice A3 x.f2.length c3]] w fun e w' => e = .returned (.int .i64 145) ∧ Hid (Below w.heap.size w w') := by
  have HP := now51 own (w.alloc (.cells #[.int .i64 x.f0.f0, .slice A1 x.f0.f1.length c1, .slice A2 x.f1.length c2, .slice A3 x.f2.length c3] 40)) g tg R A c rows pps (h.upd (T := fun _ => False) (fun h => h) (fun _ _ _ h => h) (Upd.box _))
  rw [hn] at HP
  have HP := Lib.hid HP
  obtain ⟨gs, s, rfl, hs, hst, hid, hog⟩ := h.shot i (by omega)
  have hlt : i < rows.length := by rw [h.len]; omega
  have h0 := h.upd (T := fun _ => False) (fun h => h) (fun _ _ _ h => h) (Upd.box (w := w) (.cells #[.int .i64 x.f0.f0, .slice A1 x.f0.f1.length c1, .slice A2 x.f1.length c2, .slice A3 x.f2.length c3] 40))
  obtain ⟨x0, x1, x2, x3, x4, xf⟩ := kS_at h0.hr i hs
  obtain ⟨n, hnl⟩ : ∃ n, n = rows.length := ⟨_, rfl⟩
  have q3 : (w.alloc (.cells #[.int .i64 x.f0.f0, .slice A1 x.f0.f1.length c1, .slice A2 x.f1.length c2, .slice A3 x.f2.length c3] 40)).cell? ⟨g, 3, none⟩ = some (.slice (some ⟨gs, 0, none⟩) n c) := by rw [hnl]; exact blk_at h0.hb 3 rfl
  have hin : i < n := by rw [hnl]; exact hlt
  obtain ⟨t, ht⟩ : ∃ t, t = R.n := ⟨_, rfl⟩
  have q0 : (w.alloc (.cells #[.int .i64 x.f0.f0, .slice A1 x.f0.f1.length c1, .slice A2 x.f1.length c2, .slice A3 x.f2.length c3] 40)).cell? ⟨g, 0, none⟩ = some (.int .i64 (t : Nat)) := by rw [ht]; exact blk_at (blk_alloc h.hb _) 0 rfl
  have k1 : decide (task < 0) = false := decide_eq_false h1
  have k2 : decide ((t : Int) ≤ task) = false := decide_eq_false (by rw [ht]; exact h2)
  have hL := h0.hl s (last_at (by rw [h.len]; exact hi) hs)
  have HCt := Lib.hid (Kd.R_reads' hL.ht).2.2
  have hm := (Kd.R_reads' hL.ht).1
  have hm12 : s.m ≤ 12 := by rw [hm, h.ok.lt]; exact h.ok.lm
  have hm' := hm
  rw [← hm] at HCt
  have hpk4 := hL.hk
  rw [hpk4] at x4
  rw [hst, hu] at x1
  rw [hid] at x0
  unfold inTs at hin0
  rw [← hm'] at hin0
  generalize s.m = m at *
  generalize s.e = e' at *
  generalize s.B = B at *
  generalize s.l = lp at *
  generalize s.c = cp at *
  generalize s.A = Ap at *
  generalize R.first + (i : Int) = id at *
  generalize R.ts = ts at *
  generalize R.pk = pk_ at *
  have HIN := Lib.hid hin0
  have HBW : Hid (Below w.heap.size w ((w.alloc (.cells #[.int .i64 x.f0.f0, .slice A1 x.f0.f1.length c1, .slice A2 x.f1.length c2, .slice A3 x.f2.length c3] 40)).alloc (.cells #[.int .i64 id, .int .i64 1, .slice Ap lp cp, .slice B m e', .int .i64 (pk_ : Nat)] 113))) := Lib.hid (((Below.refl _ _).alloc (Nat.le_refl _) _).alloc (by simp) _)
  have b2 := blk_at (blk_new (w.alloc (.cells #[.int .i64 x.f0.f0, .slice A1 x.f0.f1.length c1, .slice A2 x.f1.length c2, .slice A3 x.f2.length c3] 40)) (.cells #[.int .i64 id, .int .i64 1, .slice Ap lp cp, .slice B m e', .int .i64 (pk_ : Nat)] 113)) 3 rfl
  replace HCt := Lib.hid (Kd.C_alloc HCt.out (.cells #[.int .i64 id, .int .i64 1, .slice Ap lp cp, .slice B m e', .int .i64 (pk_ : Nat)] 113))
  simp only [World.size_alloc] at b2
  clear h h0 hn hs hst hid hog hlt hnl hi hu hin0 h1 h2 ht hL hm hm' xf hpk4
  go_enter Try.func36, Try.ntmps36
  go_upto_region 7 with (go_at_call 51; refine HP.out.mono ?_; rintro e w1 ⟨rfl, rfl⟩)
  clear x0 x1 x2 x3 x4 q3 q0
  go_wp2_with (fail)
  generalize hW1 : ((w.alloc (.cells #[.int .i64 x.f0.f0, .slice A1 x.f0.f1.length c1, .slice A2 x.f1.length c2, .slice A3 x.f2.length c3] 40)).alloc (.cells #[.int .i64 id, .int .i64 1, .slice Ap lp cp, .slice B m e', .int .i64 (pk_ : Nat)] 113)) = W1 at *
  clear hW1
  go_loopw [11] (fun v11 wr => ∃ k : Nat, k ≤ m ∧ v11 = .int .i64 k ∧ Hid (inR ts task k = false) ∧ wr = W1) (fun v11 _ => m - (intOf v11).toNat)
  case atStart => exact ⟨0, Nat.zero_le _, rfl, Lib.hid rfl, rfl⟩
  case round =>
    obtain ⟨k, hk, rfl, HF, hw⟩ := hrel
    subst hw
    by_cases hlt : k < m
    · obtain ⟨ad, rfl, y0⟩ := at_Int HCt.out k hlt
      have hst : inR ts task (k + 1) = (inR ts task k || (ts.getD k 0 == task)) := rfl
      rw [HF.out, Bool.false_or] at hst
      have HST := Lib.hid hst
      clear hst
      generalize ts.getD k 0 = y at *
      cases hyt : (y == task)
      · have HF2 : Hid (inR ts task (k + 1) = false) := Lib.hid (HST.out.trans hyt)
        go_wp2_with (fail)
        go_roundw
        case rel => exact ⟨k + 1, by omega, by go_num, HF2, trivial⟩
        case measure => simp [intOf]; omega
      · go_wp2_with (fail)
        go_ret
        exact ⟨rfl, HBW⟩
    · obtain rfl : k = m := by omega
      have h1 := HIN.out
      rw [HF.out] at h1
      cases h1
end Go.Proofs.Ytcbaiplamaopeaa.PPostShots
