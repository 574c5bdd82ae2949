/- Hand. -/
import Derived.Test.YtcbaiplamaopeaaPG
namespace Go.Proofs.Ytcbaiplamaopeaa.PPostShots
open Go.RowKit Go.Conc Go.Proofs.YtcbaiplamaopeaaW.PrintWords Go.Proofs.YtcbaiplamaopeaaW.PrintLast Go.Proofs.Ytcbaiplamaopeaa.PPost
set_option linter.unusedVariables false
set_option linter.unusedSimpArgs false

def PS.handed (S : PS) (t : Nat) (x : S40) : PS := { S with wh := S.wh.set t 1, buf := S.buf ++ [(t, x)] }
/-- Hand: what it answers, what is behind it. -/
def PS.hand (S : PS) (id task : Int) (x : S40) : Int × PS :=
  if task < 0 ∨ (S.n : Int) ≤ task then (144, S) else if S.under = 0 ∨ ¬ id = S.under then (143, S) else if ¬ S.wh.getD task.toNat 0 = 0 then (145, S) else (0, S.handed task.toNat x)
theorem PostAt.handed {own : Nat → Nat} {w : World} {g tg : Nat} {S : PS} {bm c bw bp nm s r : Nat} {pps : List PP} {pbuf : List (Nat × PP)} (h : PostAt own w g tg S bm c bw bp nm s r pps pbuf) (h0 : tg ≠ 0) (t : Nat) (ht : t < S.n) (hw0 : S.wh.getD t 0 = 0) (x : S40) (cs : List Value) (hx : St k40 own w x cs) :
    PostAt own ((w.setChan c S.n (bufP (pbuf ++ [(t, x, cs)])) false (s + 1) r false).setCell ⟨bw, t, none⟩ (.int .i64 1)) g tg (S.handed t x) bm c bw bp nm (s + 1) r pps (pbuf ++ [(t, x, cs)]) ∧
    Upd (· = tg) own w own ((w.setChan c S.n (bufP (pbuf ++ [(t, x, cs)])) false (s + 1) r false).setCell ⟨bw, t, none⟩ (.int .i64 1)) := by
  have hU : Upd (· = tg) own w own ((w.setChan c S.n (bufP (pbuf ++ [(t, x, cs)])) false (s + 1) r false).setCell ⟨bw, t, none⟩ (.int .i64 1)) := (Upd.chan h.oc ..).then (set_own h.ow _ _)
  have hf : ∀ k, k ≠ c → k ≠ bw → ((w.setChan c S.n (bufP (pbuf ++ [(t, x, cs)])) false (s + 1) r false).setCell ⟨bw, t, none⟩ (.int .i64 1)).heap[k]? = w.heap[k]? := fun k h1 h2 => (set_far _ _ _ h2).trans (chan_far _ h1 ..)
  have hlw : t < S.wh.length := by rw [h.ok.lw]; exact ht
  have hget : S.wh[t]? = some 0 := by rw [List.getD_eq_getElem?_getD, List.getElem?_eq_getElem hlw, Option.getD_some] at hw0; rw [List.getElem?_eq_getElem hlw, hw0]
  have hnot : ∀ e ∈ S.buf, e.1 ≠ t := fun e he heq => by
    have := h.ok.bw e he
    rw [heq, hget] at this
    cases this
  refine ⟨{
    hb := (hf _ h.gc h.gw).trans h.hb
    hm := h.hm.move (hf _ h.cm.symm h.wm.symm)
    hc := (set_far _ _ _ h.wc.symm).trans (chan_now w h.hc)
    hw := (blk_set ((chan_far _ h.wc ..).trans h.hw) t _).trans (by rw [whC_set]; rfl)
    hp := (hf _ h.pc h.wp.symm).trans h.hp
    e1 := h.e1
    e2 := by show List.map _ (pbuf ++ _) = S.buf ++ _; rw [List.map_append, h.e2]; rfl
    s1 := fun p hp => (h.s1 p hp).upd (S := (· = tg)) (fun e => h0 e.symm) hU
    s2 := fun p hp => by
      refine St.upd (S := (· = tg)) ?_ (fun e => h0 e.symm) hU
      rcases List.mem_append.1 hp with hp | hp
      · exact h.s2 p hp
      · rw [List.mem_singleton] at hp; subst hp; exact hx
    ok := { h.ok with
      lw := by show (S.wh.set t 1).length = S.n; rw [List.length_set]; exact h.ok.lw
      nd := by
        show (List.map _ (S.buf ++ _)).Nodup
        rw [List.map_append, List.nodup_append]
        refine ⟨h.ok.nd, by simp, ?_⟩
        intro a ha b hb
        obtain ⟨e, he, rfl⟩ := List.mem_map.1 ha
        simp at hb
        subst hb
        exact hnot e he
      bw := fun e he => by
        show (S.wh.set t 1)[e.1]? = some 1
        rcases List.mem_append.1 he with he | he
        · rw [List.getElem?_set_ne (fun e' => hnot e he e'.symm)]; exact h.ok.bw e he
        · rw [List.mem_singleton] at he; subst he; rw [List.getElem?_set_self hlw] }
    og := h.og
    om := h.om
    oc := h.oc
    ow := h.ow
    op := h.op }, hU⟩
theorem PostAt.room {own : Nat → Nat} {w : World} {g tg : Nat} {S : PS} {bm c bw bp nm s r : Nat} {pps : List PP} {pbuf : List (Nat × PP)} (h : PostAt own w g tg S bm c bw bp nm s r pps pbuf) (h0 : tg ≠ 0) (t : Nat) (ht : t < S.n) (hw0 : S.wh.getD t 0 = 0) : pbuf.length < S.n := by
  have hlw : t < S.wh.length := by rw [h.ok.lw]; exact ht
  have hget : S.wh[t]? = some 0 := by rw [List.getD_eq_getElem?_getD, List.getElem?_eq_getElem hlw, Option.getD_some] at hw0; rw [List.getElem?_eq_getElem hlw, hw0]
  have h1 : pbuf.length = (S.buf.map (·.1)).length := by rw [← h.e2]; simp
  have := nodup_le S.n (t :: S.buf.map (·.1)) (List.nodup_cons.2 ⟨(fun hm => by
    obtain ⟨e, he, heq⟩ := List.mem_map.1 hm
    have := h.ok.bw e he
    rw [heq, hget] at this
    cases this), h.ok.nd⟩) (fun k hk => by
      rcases List.mem_cons.1 hk with rfl | hk
      · exact ht
      · obtain ⟨e, he, rfl⟩ := List.mem_map.1 hk
        have := (List.getElem?_eq_some_iff.1 (h.ok.bw e he)).1
        rw [← h.ok.lw]; exact this)
  simp only [List.length_cons] at this
  omega
set_option maxRecDepth 100000 in
set_option maxHeartbeats 4000000 in
theorem hand10_t1 (own : Nat → Nat) (w : World) (g tg : Nat) (S : PS) (bm c bw bp nm s r : Nat) (pps : List PP) (pbuf : List (Nat × PP)) (h : PostAt own w g tg S bm c bw bp nm s r pps pbuf) (h0 : tg ≠ 0) (id : Int) (task : Int) (x : S40) (A1 : Option Addr) (c1 : Nat) (A2 : Option Addr) (c2 : Nat) (A3 : Option Addr) (c3 : Nat) (ht : task < 0) :
    Calls Try.prog 10 #[.pointer (some ⟨g, 0, none⟩), .int .i64 id, .int .i64 task, .agg #[.int .i64 x.f0.f0, .slice A1 x.f0.f1.length c1, .slice A2 x.f1.length c2, .slice A3 x.f2.length c3]] w fun e w' => e = .returned (.int .i64 144) ∧ Hid (Below w.heap.size w w') := by
  obtain ⟨n, hn⟩ : ∃ n, n = S.n := ⟨_, rfl⟩
  have q5 : (w.alloc (.cells #[.int .i64 x.f0.f0, .slice A1 x.f0.f1.length c1, .slice A2 x.f1.length c2, .slice A3 x.f2.length c3] 40)).cell? ⟨g, 5, none⟩ = some (.slice (some ⟨bw, 0, none⟩) n n) := by rw [hn]; exact blk_at (blk_alloc h.hb _) 5 rfl
  have q2 : (w.alloc (.cells #[.int .i64 x.f0.f0, .slice A1 x.f0.f1.length c1, .slice A2 x.f1.length c2, .slice A3 x.f2.length c3] 40)).cell? ⟨g, 2, none⟩ = some (.int .i64 S.under) := blk_at (blk_alloc h.hb _) 2 rfl
  have hn12 : n ≤ 12 := by rw [hn]; exact h.ok.n2
  have k1 : decide (task < 0) = true := decide_eq_true ht
  have HB : Hid (Below w.heap.size w (w.alloc (.cells #[.int .i64 x.f0.f0, .slice A1 x.f0.f1.length c1, .slice A2 x.f1.length c2, .slice A3 x.f2.length c3] 40))) := Lib.hid ((Below.refl _ _).alloc (Nat.le_refl _) _)
  clear h hn
  go_enter Try.func10, Try.ntmps10
  go_wp2_with (fail)
  go_ret
  exact ⟨rfl, HB⟩
set_option maxRecDepth 100000 in
set_option maxHeartbeats 4000000 in
theorem hand10_t2 (own : Nat → Nat) (w : World) (g tg : Nat) (S : PS) (bm c bw bp nm s r : Nat) (pps : List PP) (pbuf : List (Nat × PP)) (h : PostAt own w g tg S bm c bw bp nm s r pps pbuf) (h0 : tg ≠ 0) (id : Int) (task : Int) (x : S40) (A1 : Option Addr) (c1 : Nat) (A2 : Option Addr) (c2 : Nat) (A3 : Option Addr) (c3 : Nat) (ht : ¬ task < 0) (ht2 : (S.n : Int) ≤ task) :
    Calls Try.prog 10 #[.pointer (some ⟨g, 0, none⟩), .int .i64 id, .int .i64 task, .agg #[.int .i64 x.f0.f0, .slice A1 x.f0.f1.length c1, .slice A2 x.f1.length c2, .slice A3 x.f2.length c3]] w fun e w' => e = .returned (.int .i64 144) ∧ Hid (Below w.heap.size w w') := by
  obtain ⟨n, hn⟩ : ∃ n, n = S.n := ⟨_, rfl⟩
  have q5 : (w.alloc (.cells #[.int .i64 x.f0.f0, .slice A1 x.f0.f1.length c1, .slice A2 x.f1.length c2, .slice A3 x.f2.length c3] 40)).cell? ⟨g, 5, none⟩ = some (.slice (some ⟨bw, 0, none⟩) n n) := by rw [hn]; exact blk_at (blk_alloc h.hb _) 5 rfl
  have q2 : (w.alloc (.cells #[.int .i64 x.f0.f0, .slice A1 x.f0.f1.length c1, .slice A2 x.f1.length c2, .slice A3 x.f2.length c3] 40)).cell? ⟨g, 2, none⟩ = some (.int .i64 S.under) := blk_at (blk_alloc h.hb _) 2 rfl
  have hn12 : n ≤ 12 := by rw [hn]; exact h.ok.n2
  have k1 : decide (task < 0) = false := decide_eq_false ht
  have k2 : decide ((n : Int) ≤ task) = true := decide_eq_true (by rw [hn]; exact ht2)
  have HB : Hid (Below w.heap.size w (w.alloc (.cells #[.int .i64 x.f0.f0, .slice A1 x.f0.f1.length c1, .slice A2 x.f1.length c2, .slice A3 x.f2.length c3] 40))) := Lib.hid ((Below.refl _ _).alloc (Nat.le_refl _) _)
  clear h hn
  go_enter Try.func10, Try.ntmps10
  go_wp2_with (fail)
  go_ret
  exact ⟨rfl, HB⟩
set_option maxRecDepth 100000 in
set_option maxHeartbeats 4000000 in
theorem hand10_o1 (own : Nat → Nat) (w : World) (g tg : Nat) (S : PS) (bm c bw bp nm s r : Nat) (pps : List PP) (pbuf : List (Nat × PP)) (h : PostAt own w g tg S bm c bw bp nm s r pps pbuf) (h0 : tg ≠ 0) (id : Int) (t : Nat) (x : S40) (A1 : Option Addr) (c1 : Nat) (A2 : Option Addr) (c2 : Nat) (A3 : Option Addr) (c3 : Nat) (ht : t < S.n) (hu : S.under = 0) :
    Calls Try.prog 10 #[.pointer (some ⟨g, 0, none⟩), .int .i64 id, .int .i64 t, .agg #[.int .i64 x.f0.f0, .slice A1 x.f0.f1.length c1, .slice A2 x.f1.length c2, .slice A3 x.f2.length c3]] w fun e w' => e = .returned (.int .i64 143) ∧ Hid (Below w.heap.size w w') := by
  obtain ⟨n, hn⟩ : ∃ n, n = S.n := ⟨_, rfl⟩
  have q5 : (w.alloc (.cells #[.int .i64 x.f0.f0, .slice A1 x.f0.f1.length c1, .slice A2 x.f1.length c2, .slice A3 x.f2.length c3] 40)).cell? ⟨g, 5, none⟩ = some (.slice (some ⟨bw, 0, none⟩) n n) := by rw [hn]; exact blk_at (blk_alloc h.hb _) 5 rfl
  have q2 : (w.alloc (.cells #[.int .i64 x.f0.f0, .slice A1 x.f0.f1.length c1, .slice A2 x.f1.length c2, .slice A3 x.f2.length c3] 40)).cell? ⟨g, 2, none⟩ = some (.int .i64 S.under) := blk_at (blk_alloc h.hb _) 2 rfl
  have hn12 : n ≤ 12 := by rw [hn]; exact h.ok.n2
  have hlt : t < n := by rw [hn]; exact ht
  have k3 : (S.under == 0) = true := by simpa using hu
  have HB : Hid (Below w.heap.size w (w.alloc (.cells #[.int .i64 x.f0.f0, .slice A1 x.f0.f1.length c1, .slice A2 x.f1.length c2, .slice A3 x.f2.length c3] 40))) := Lib.hid ((Below.refl _ _).alloc (Nat.le_refl _) _)
  clear h hn
  go_enter Try.func10, Try.ntmps10
  go_wp2_with (fail)
  go_ret
  exact ⟨rfl, HB⟩
set_option maxRecDepth 100000 in
set_option maxHeartbeats 4000000 in
theorem hand10_o2 (own : Nat → Nat) (w : World) (g tg : Nat) (S : PS) (bm c bw bp nm s r : Nat) (pps : List PP) (pbuf : List (Nat × PP)) (h : PostAt own w g tg S bm c bw bp nm s r pps pbuf) (h0 : tg ≠ 0) (id : Int) (t : Nat) (x : S40) (A1 : Option Addr) (c1 : Nat) (A2 : Option Addr) (c2 : Nat) (A3 : Option Addr) (c3 : Nat) (ht : t < S.n) (hu : ¬ S.under = 0) (hi : ¬ id = S.under) :
    Calls Try.prog 10 #[.pointer (some ⟨g, 0, none⟩), .int .i64 id, .int .i64 t, .agg #[.int .i64 x.f0.f0, .slice A1 x.f0.f1.length c1, .slice A2 x.f1.length c2, .slice A3 x.f2.length c3]] w fun e w' => e = .returned (.int .i64 143) ∧ Hid (Below w.heap.size w w') := by
  obtain ⟨n, hn⟩ : ∃ n, n = S.n := ⟨_, rfl⟩
  have q5 : (w.alloc (.cells #[.int .i64 x.f0.f0, .slice A1 x.f0.f1.length c1, .slice A2 x.f1.length c2, .slice A3 x.f2.length c3] 40)).cell? ⟨g, 5, none⟩ = some (.slice (some ⟨bw, 0, none⟩) n n) := by rw [hn]; exact blk_at (blk_alloc h.hb _) 5 rfl
  have q2 : (w.alloc (.cells #[.int .i64 x.f0.f0, .slice A1 x.f0.f1.length c1, .slice A2 x.f1.length c2, .slice A3 x.f2.length c3] 40)).cell? ⟨g, 2, none⟩ = some (.int .i64 S.under) := blk_at (blk_alloc h.hb _) 2 rfl
  have hn12 : n ≤ 12 := by rw [hn]; exact h.ok.n2
  have hlt : t < n := by rw [hn]; exact ht
  have k3 : (S.under == 0) = false := by simpa using hu
  have k4 : (id == S.under) = false := by simpa using hi
  have HB : Hid (Below w.heap.size w (w.alloc (.cells #[.int .i64 x.f0.f0, .slice A1 x.f0.f1.length c1, .slice A2 x.f1.length c2, .slice A3 x.f2.length c3] 40))) := Lib.hid ((Below.refl _ _).alloc (Nat.le_refl _) _)
  clear h hn
  go_enter Try.func10, Try.ntmps10
  go_wp2_with (fail)
  go_ret
  exact ⟨rfl, HB⟩
set_option maxRecDepth 100000 in
set_option maxHeartbeats 4000000 in
theorem hand10_w (own : Nat → Nat) (w : World) (g tg : Nat) (S : PS) (bm c bw bp nm s r : Nat) (pps : List PP) (pbuf : List (Nat × PP)) (h : PostAt own w g tg S bm c bw bp nm s r pps pbuf) (h0 : tg ≠ 0) (id : Int) (t : Nat) (x : S40) (A1 : Option Addr) (c1 : Nat) (A2 : Option Addr) (c2 : Nat) (A3 : Option Addr) (c3 : Nat) (ht : t < S.n) (hu : ¬ S.under = 0) (hi : id = S.under) (hw : ¬ S.wh.getD t 0 = 0) :
    Calls Try.prog 10 #[.pointer (some ⟨g, 0, none⟩), .int .i64 id, .int .i64 t, .agg #[.int .i64 x.f0.f0, .slice A1 x.f0.f1.length c1, .slice A2 x.f1.length c2, .slice A3 x.f2.length c3]] w fun e w' => e = .returned (.int .i64 145) ∧ Hid (Below w.heap.size w w') := by
  obtain ⟨n, hn⟩ : ∃ n, n = S.n := ⟨_, rfl⟩
  have q5 : (w.alloc (.cells #[.int .i64 x.f0.f0, .slice A1 x.f0.f1.length c1, .slice A2 x.f1.length c2, .slice A3 x.f2.length c3] 40)).cell? ⟨g, 5, none⟩ = some (.slice (some ⟨bw, 0, none⟩) n n) := by rw [hn]; exact blk_at (blk_alloc h.hb _) 5 rfl
  have q2 : (w.alloc (.cells #[.int .i64 x.f0.f0, .slice A1 x.f0.f1.length c1, .slice A2 x.f1.length c2, .slice A3 x.f2.length c3] 40)).cell? ⟨g, 2, none⟩ = some (.int .i64 S.under) := blk_at (blk_alloc h.hb _) 2 rfl
  have hn12 : n ≤ 12 := by rw [hn]; exact h.ok.n2
  have hlt : t < n := by rw [hn]; exact ht
  have k3 : (S.under == 0) = false := by simpa using hu
  have k4 : (id == S.under) = true := by simpa using hi
  have a0 : (w.alloc (.cells #[.int .i64 x.f0.f0, .slice A1 x.f0.f1.length c1, .slice A2 x.f1.length c2, .slice A3 x.f2.length c3] 40)).cell? ⟨bw, t, none⟩ = some (.int .i64 (S.wh.getD t 0)) := World.cell?_of_block (blk_alloc h.hw _ |>.trans h.hw.symm) |>.trans (h.wcell t ht)
  generalize S.wh.getD t 0 = x9 at *
  have k5 : (x9 == 0) = false := by simpa using hw
  have HB : Hid (Below w.heap.size w (w.alloc (.cells #[.int .i64 x.f0.f0, .slice A1 x.f0.f1.length c1, .slice A2 x.f1.length c2, .slice A3 x.f2.length c3] 40))) := Lib.hid ((Below.refl _ _).alloc (Nat.le_refl _) _)
  clear h hn
  go_enter Try.func10, Try.ntmps10
  go_wp2_with (fail)
  go_ret
  exact ⟨rfl, HB⟩
set_option maxRecDepth 100000 in
set_option maxHeartbeats 4000000 in
theorem hand10_ok (own : Nat → Nat) (w : World) (g tg : Nat) (S : PS) (bm c bw bp nm s r : Nat) (pps : List PP) (pbuf : List (Nat × PP)) (h : PostAt own w g tg S bm c bw bp nm s r pps pbuf) (h0 : tg ≠ 0) (t : Nat) (x : S40) (A1 : Option Addr) (c1 : Nat) (A2 : Option Addr) (c2 : Nat) (A3 : Option Addr) (c3 : Nat) (ht : t < S.n) (hu : ¬ S.under = 0) (hw : S.wh.getD t 0 = 0) (hC1 : Kd.C k103 w A1 x.f0.f1.length x.f0.f1) (hC2 : Kd.C (Kd.slice 83 k83) w A2 x.f1.length x.f1) (hC3 : Kd.C k83 w A3 x.f2.length x.f2) (hp : partsP x ≤ 100000) :
    Calls Try.prog 10 #[.pointer (some ⟨g, 0, none⟩), .int .i64 S.under, .int .i64 t, .agg #[.int .i64 x.f0.f0, .slice A1 x.f0.f1.length c1, .slice A2 x.f1.length c2, .slice A3 x.f2.length c3]] w fun e w' => e = .returned (.int .i64 0) ∧ PostTo own w g tg nm (S.handed t x) w' := by
  obtain ⟨n, hn⟩ : ∃ n, n = S.n := ⟨_, rfl⟩
  have q5 : (w.alloc (.cells #[.int .i64 x.f0.f0, .slice A1 x.f0.f1.length c1, .slice A2 x.f1.length c2, .slice A3 x.f2.length c3] 40)).cell? ⟨g, 5, none⟩ = some (.slice (some ⟨bw, 0, none⟩) n n) := by rw [hn]; exact blk_at (blk_alloc h.hb _) 5 rfl
  have q2 : (w.alloc (.cells #[.int .i64 x.f0.f0, .slice A1 x.f0.f1.length c1, .slice A2 x.f1.length c2, .slice A3 x.f2.length c3] 40)).cell? ⟨g, 2, none⟩ = some (.int .i64 S.under) := blk_at (blk_alloc h.hb _) 2 rfl
  have q4 : (w.alloc (.cells #[.int .i64 x.f0.f0, .slice A1 x.f0.f1.length c1, .slice A2 x.f1.length c2, .slice A3 x.f2.length c3] 40)).cell? ⟨g, 4, none⟩ = some (.chan (some c)) := blk_at (blk_alloc h.hb _) 4 rfl
  have b0 : (w.alloc (.cells #[.int .i64 x.f0.f0, .slice A1 x.f0.f1.length c1, .slice A2 x.f1.length c2, .slice A3 x.f2.length c3] 40)).cell? ⟨w.heap.size, 0, none⟩ = some (.int .i64 x.f0.f0) := blk_at (blk_new w (.cells #[.int .i64 x.f0.f0, .slice A1 x.f0.f1.length c1, .slice A2 x.f1.length c2, .slice A3 x.f2.length c3] 40)) 0 rfl
  have b1 : (w.alloc (.cells #[.int .i64 x.f0.f0, .slice A1 x.f0.f1.length c1, .slice A2 x.f1.length c2, .slice A3 x.f2.length c3] 40)).cell? ⟨w.heap.size, 1, none⟩ = some (.slice A1 x.f0.f1.length c1) := blk_at (blk_new w (.cells #[.int .i64 x.f0.f0, .slice A1 x.f0.f1.length c1, .slice A2 x.f1.length c2, .slice A3 x.f2.length c3] 40)) 1 rfl
  have b2 : (w.alloc (.cells #[.int .i64 x.f0.f0, .slice A1 x.f0.f1.length c1, .slice A2 x.f1.length c2, .slice A3 x.f2.length c3] 40)).cell? ⟨w.heap.size, 2, none⟩ = some (.slice A2 x.f1.length c2) := blk_at (blk_new w (.cells #[.int .i64 x.f0.f0, .slice A1 x.f0.f1.length c1, .slice A2 x.f1.length c2, .slice A3 x.f2.length c3] 40)) 2 rfl
  have b3 : (w.alloc (.cells #[.int .i64 x.f0.f0, .slice A1 x.f0.f1.length c1, .slice A2 x.f1.length c2, .slice A3 x.f2.length c3] 40)).cell? ⟨w.heap.size, 3, none⟩ = some (.slice A3 x.f2.length c3) := blk_at (blk_new w (.cells #[.int .i64 x.f0.f0, .slice A1 x.f0.f1.length c1, .slice A2 x.f1.length c2, .slice A3 x.f2.length c3] 40)) 3 rfl
  have hn12 : n ≤ 12 := by rw [hn]; exact h.ok.n2
  have k3 : (S.under == 0) = false := by simpa using hu
  have hlt : t < n := by rw [hn]; exact ht
  have a0 : (w.alloc (.cells #[.int .i64 x.f0.f0, .slice A1 x.f0.f1.length c1, .slice A2 x.f1.length c2, .slice A3 x.f2.length c3] 40)).cell? ⟨bw, t, none⟩ = some (.int .i64 0) := World.cell?_of_block (blk_alloc h.hw _ |>.trans h.hw.symm) |>.trans ((h.wcell t ht).trans (by rw [hw]))
  have HCP := Lib.hid (copied26 x A1 c1 A2 c2 A3 c3 (w.alloc (.cells #[.int .i64 x.f0.f0, .slice A1 x.f0.f1.length c1, .slice A2 x.f1.length c2, .slice A3 x.f2.length c3] 40)) (Kd.C_alloc hC1 _) (Kd.C_alloc hC2 _) (Kd.C_alloc hC3 _) hp)
  obtain ⟨own1, hown1⟩ : ∃ own1 : Nat → Nat, own1 = fresh own w 0 := ⟨_, rfl⟩
  have HH := Lib.hid h
  have H0 := Lib.hid h0
  have Hw := Lib.hid hw
  have Ht := Lib.hid ht
  have Hn := Lib.hid hn
  have HB1 : Hid (Below w.heap.size w (w.alloc (.cells #[.int .i64 x.f0.f0, .slice A1 x.f0.f1.length c1, .slice A2 x.f1.length c2, .slice A3 x.f2.length c3] 40))) := Lib.hid ((Below.refl _ _).alloc (Nat.le_refl _) _)
  clear h h0 hn hC1 hC2 hC3 hp hu hw ht
  go_enter Try.func10, Try.ntmps10
  go_upto_region 9 with (go_at_call 26; refine HCP.out.mono ?_; rintro e w2 ⟨v1, v2, v3, rfl, hv1, hv2, hv3, hb⟩
                         have HB2 := Lib.hid (HB1.out.trans (hb.out.mono HB1.out.size)))
  have HU2 : Hid (Upd (· = tg) own w own1 w2) := Lib.hid (by rw [hown1]; exact Upd.of_below HB2.out 0)
  have HP2 : Hid (PostAt own1 w2 g tg S bm c bw bp nm s r pps pbuf) := Lib.hid (by rw [hown1]; exact HH.out.upd (T := fun _ => False) (fun e => e) (fun e => e) (Upd.of_below HB2.out 0))
  have hnew : ∀ k, (w.alloc (.cells #[.int .i64 x.f0.f0, .slice A1 x.f0.f1.length c1, .slice A2 x.f1.length c2, .slice A3 x.f2.length c3] 40)).heap.size ≤ k → own1 k = 0 := fun k hk => by rw [hown1]; exact fresh_new (by simp only [World.size_alloc] at hk; omega)
  have HX : Hid (St k40 own1 w2 x [.int .i64 x.f0.f0, v1, v2, v3]) := Lib.hid (St.made (base := (w.alloc (.cells #[.int .i64 x.f0.f0, .slice A1 x.f0.f1.length c1, .slice A2 x.f1.length c2, .slice A3 x.f2.length c3] 40)).heap.size) (k40_mkM _ _ _ x (Kd.R_mono (Kd.R_bound hv1.out) (fun k hk => hnew k hk.2.1)) (Kd.R_mono (Kd.R_bound hv2.out) (fun k hk => hnew k hk.2.1)) (Kd.R_mono (Kd.R_bound hv3.out) (fun k hk => hnew k hk.2.1))))
  clear hv1 hv2 hv3 hb q5 q2 q4 a0 b0 b1 b2 b3 hnew hown1 HH HB1 HB2 HCP
  refine sem_first ?_
  refine sem_sel_send (x := .agg #[.int .i64 (t : Nat), .int .i64 x.f0.f0, v1, v2, v3]) (z := .agg #[.int .i64 0, .int .i64 0, .slice none 0 0, .slice none 0 0, .slice none 0 0]) (c := c) (cap := S.n) (buf := bufP pbuf) (s := s) (r := r) (tm := false) rfl (by rfl) ?_ HP2.out.hc (by rw [bufP_size]; exact HP2.out.room H0.out t Ht.out Hw.out) ?_
  · simp [go_sem, execOp, scase, Act.eval, Try.zeroValue78]
  rw [show (bufP pbuf).push (.agg #[.int .i64 (t : Nat), .int .i64 x.f0.f0, v1, v2, v3]) = bufP (pbuf ++ [(t, x, [.int .i64 x.f0.f0, v1, v2, v3])]) from bufP_push pbuf (t, x, [.int .i64 x.f0.f0, v1, v2, v3])]
  refine sem_norm (a' := ?_) ?_ ?_
  rotate_left
  · simp only [Act.put, List.setIfInBounds_toArray, List.set_cons_zero, List.set_cons_succ]
    rfl
  refine sem_rest ?_
  have HD := Lib.hid (HP2.out.handed H0.out t Ht.out Hw.out x _ HX.out)
  have q5 : (w2.setChan c S.n (bufP (pbuf ++ [(t, x, [.int .i64 x.f0.f0, v1, v2, v3])])) false (s + 1) r false).cell? ⟨g, 5, none⟩ = some (.slice (some ⟨bw, 0, none⟩) n n) := by rw [Hn.out]; exact blk_at ((chan_far _ HP2.out.gc ..).trans HP2.out.hb) 5 rfl
  have y5 : (w2.setChan c S.n (bufP (pbuf ++ [(t, x, [.int .i64 x.f0.f0, v1, v2, v3])])) false (s + 1) r false).cell? ⟨bw, t, none⟩ = some (.int .i64 0) := (World.cell?_of_block (chan_far _ HP2.out.wc ..)).trans ((HP2.out.wcell t Ht.out).trans (by rw [Hw.out]))
  have z5 : (w2.setChan c S.n (bufP (pbuf ++ [(t, x, [.int .i64 x.f0.f0, v1, v2, v3])])) false (s + 1) r false).frozen? ⟨bw, t, none⟩ = false := blk_frozen ((chan_far _ HP2.out.wc ..).trans HP2.out.hw) t
  go_wp2_with (fail)
  go_ret
  exact ⟨rfl, own1, bm, c, bw, bp, nm, s + 1, r, pps, _, HD.out.1, HU2.out.then HD.out.2, Nat.le_refl _⟩
theorem hand10 (own : Nat → Nat) (w : World) (g tg : Nat) (S : PS) (bm c bw bp nm s r : Nat) (pps : List PP) (pbuf : List (Nat × PP)) (h : PostAt own w g tg S bm c bw bp nm s r pps pbuf) (h0 : tg ≠ 0) (id task : Int) (x : S40) (A1 : Option Addr) (c1 : Nat) (A2 : Option Addr) (c2 : Nat) (A3 : Option Addr) (c3 : Nat) (hC1 : Kd.C k103 w A1 x.f0.f1.length x.f0.f1) (hC2 : Kd.C (Kd.slice 83 k83) w A2 x.f1.length x.f1) (hC3 : Kd.C k83 w A3 x.f2.length x.f2) (hp : partsP x ≤ 100000) :
    Calls Try.prog 10 #[.pointer (some ⟨g, 0, none⟩), .int .i64 id, .int .i64 task, .agg #[.int .i64 x.f0.f0, .slice A1 x.f0.f1.length c1, .slice A2 x.f1.length c2, .slice A3 x.f2.length c3]] w fun e w' => e = .returned (.int .i64 (S.hand id task x).1) ∧ PostTo own w g tg nm (S.hand id task x).2 w' := by
  have stay : ∀ (E : Int) (e : Ending) (w' : World), e = .returned (.int .i64 E) ∧ Hid (Below w.heap.size w w') → e = .returned (.int .i64 E) ∧ PostTo own w g tg nm S w' := fun E e w' he =>
    ⟨he.1, fresh own w 0, bm, c, bw, bp, nm, s, r, pps, pbuf, h.upd (T := fun _ => False) (fun e => e) (fun e => e) (Upd.of_below he.2.out 0), Upd.of_below he.2.out 0, Nat.le_refl _⟩
  unfold PS.hand
  by_cases h1 : task < 0
  · rw [if_pos (.inl h1)]
    exact (hand10_t1 own w g tg S bm c bw bp nm s r pps pbuf h h0 id task x A1 c1 A2 c2 A3 c3 h1).mono (fun e w' he => stay _ e w' he)
  by_cases h2 : (S.n : Int) ≤ task
  · rw [if_pos (.inr h2)]
    exact (hand10_t2 own w g tg S bm c bw bp nm s r pps pbuf h h0 id task x A1 c1 A2 c2 A3 c3 h1 h2).mono (fun e w' he => stay _ e w' he)
  rw [if_neg (by omega)]
  obtain ⟨t, rfl⟩ : ∃ t : Nat, task = t := ⟨task.toNat, by omega⟩
  have ht : t < S.n := by omega
  by_cases h3 : S.under = 0
  · rw [if_pos (.inl h3)]
    exact (hand10_o1 own w g tg S bm c bw bp nm s r pps pbuf h h0 id t x A1 c1 A2 c2 A3 c3 ht h3).mono (fun e w' he => stay _ e w' he)
  by_cases h4 : id = S.under
  · rw [if_neg (by simp [h3, h4])]
    rw [Int.toNat_natCast]
    by_cases h5 : S.wh.getD t 0 = 0
    · rw [if_neg (by simpa using h5)]
      rw [h4]
      exact hand10_ok own w g tg S bm c bw bp nm s r pps pbuf h h0 t x A1 c1 A2 c2 A3 c3 ht h3 h5 hC1 hC2 hC3 hp
    · rw [if_pos h5]
      exact (hand10_w own w g tg S bm c bw bp nm s r pps pbuf h h0 id t x A1 c1 A2 c2 A3 c3 ht h3 h4 h5).mono (fun e w' he => stay _ e w' he)
  · rw [if_pos (.inr h4)]
    exact (hand10_o2 own w g tg S bm c bw bp nm s r pps pbuf h h0 id t x A1 c1 A2 c2 A3 c3 ht h3 h4).mono (fun e w' he => stay _ e w' he)
end Go.Proofs.Ytcbaiplamaopeaa.PPostShots
