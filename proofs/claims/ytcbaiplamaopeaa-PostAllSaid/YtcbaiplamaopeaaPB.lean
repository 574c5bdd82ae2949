/- What each store and each message does to the coordinator in memory. -/
import Derived.Test.YtcbaiplamaopeaaPA
namespace Go.Proofs.Ytcbaiplamaopeaa.PPostShots
open Go.RowKit Go.Conc Go.Proofs.YtcbaiplamaopeaaW.PrintWords Go.Proofs.YtcbaiplamaopeaaW.PrintLast Go.Proofs.Ytcbaiplamaopeaa.PPost
set_option linter.unusedVariables false
set_option linter.unusedSimpArgs false

theorem set_far (w : World) (p : Addr) (u : Value) {k : Nat} (h : k ≠ p.block) : (w.setCell p u).heap[k]? = w.heap[k]? := Below.heap_setCell w p u k h
theorem set_own {tg : Nat} {own : Nat → Nat} {w : World} {b : Nat} (h : own b = tg) (i : Nat) (u : Value) : Upd (· = tg) own w own (w.setCell ⟨b, i, none⟩ u) := Upd.set (p := ⟨b, i, none⟩) h u
def PS.setW (S : PS) (t : Nat) (x : Int) : PS := { S with wh := S.wh.set t x }
def PS.setP (S : PS) (t : Nat) (q : S40) : PS := { S with ps := S.ps.set t q }
def PS.setF (S : PS) (id v : Int) : PS := { S with f := fun y => if y = id then v else S.f y }
def PS.setU (S : PS) (x : Int) : PS := { S with under := x }
def PS.setN (S : PS) (x : Int) : PS := { S with next := x }
def PS.setB (S : PS) (l : List (Nat × S40)) : PS := { S with buf := l }
section
variable {own : Nat → Nat} {w : World} {g tg : Nat} {S : PS} {bm c bw bp nm s r : Nat} {pps : List PP} {pbuf : List (Nat × PP)} (h : PostAt own w g tg S bm c bw bp nm s r pps pbuf)
include h
theorem PostAt.setW (h0 : tg ≠ 0) (t : Nat) (x : Int) (hx : ∀ e ∈ S.buf, (S.wh.set t x)[e.1]? = some 1) : PostAt own (w.setCell ⟨bw, t, none⟩ (.int .i64 x)) g tg (S.setW t x) bm c bw bp nm s r pps pbuf where
  hb := (set_far _ _ _ h.gw).trans h.hb
  hm := h.hm.move (set_far _ _ _ h.wm.symm)
  hc := (set_far _ _ _ h.wc.symm).trans h.hc
  hw := (blk_set h.hw t _).trans (by rw [whC_set]; rfl)
  hp := (set_far _ _ _ h.wp.symm).trans h.hp
  e1 := h.e1
  e2 := h.e2
  s1 := fun p hp => (h.s1 p hp).upd (S := (· = tg)) (fun e => h0 e.symm) (set_own h.ow _ _)
  s2 := fun p hp => (h.s2 p hp).upd (S := (· = tg)) (fun e => h0 e.symm) (set_own h.ow _ _)
  ok := { h.ok with lw := (by show (S.wh.set t x).length = S.n; rw [List.length_set]; exact h.ok.lw), bw := hx }
  og := h.og
  om := h.om
  oc := h.oc
  ow := h.ow
  op := h.op
theorem PostAt.setP (h0 : tg ≠ 0) (t : Nat) (ht : t < S.n) (q : S40) (a b d e : Value) (hq : St k40 own w q [a, b, d, e]) :
    PostAt own ((((w.setCell ⟨bp, t * 4, none⟩ a).setCell ⟨bp, t * 4 + 1, none⟩ b).setCell ⟨bp, t * 4 + 2, none⟩ d).setCell ⟨bp, t * 4 + 3, none⟩ e) g tg (S.setP t q) bm c bw bp nm s r (pps.set t (q, [a, b, d, e])) pbuf := by
  have hu : Upd (· = tg) own w own ((((w.setCell ⟨bp, t * 4, none⟩ a).setCell ⟨bp, t * 4 + 1, none⟩ b).setCell ⟨bp, t * 4 + 2, none⟩ d).setCell ⟨bp, t * 4 + 3, none⟩ e) :=
    (((set_own h.op _ _).then (set_own h.op _ _)).then (set_own h.op _ _)).then (set_own h.op _ _)
  have hf : ∀ k, k ≠ bp → ((((w.setCell ⟨bp, t * 4, none⟩ a).setCell ⟨bp, t * 4 + 1, none⟩ b).setCell ⟨bp, t * 4 + 2, none⟩ d).setCell ⟨bp, t * 4 + 3, none⟩ e).heap[k]? = w.heap[k]? := fun k hk =>
    (set_far _ _ _ hk).trans ((set_far _ _ _ hk).trans ((set_far _ _ _ hk).trans (set_far _ _ _ hk)))
  exact {
    hb := (hf _ h.gp).trans h.hb
    hm := h.hm.move (hf _ h.pm.symm)
    hc := (hf _ h.pc.symm).trans h.hc
    hw := (hf _ h.wp).trans h.hw
    hp := by
      have h1 := blk_set (blk_set (blk_set (blk_set h.hp (t * 4) a) (t * 4 + 1) b) (t * 4 + 2) d) (t * 4 + 3) e
      rw [h1, ← cellsP_set pps t q a b d e h.l4 (by rw [h.lpp]; exact ht)]
      simp
    e1 := by show _ = S.ps.set t q; rw [List.map_set, h.e1]
    e2 := h.e2
    s1 := fun p hp => by
      refine St.upd (S := (· = tg)) ?_ (fun e => h0 e.symm) hu
      rcases List.mem_or_eq_of_mem_set hp with hp | rfl
      · exact h.s1 p hp
      · exact hq
    s2 := fun p hp => (h.s2 p hp).upd (S := (· = tg)) (fun e => h0 e.symm) hu
    ok := { h.ok with lp := (by show (S.ps.set t q).length = S.n; rw [List.length_set]; exact h.ok.lp) }
    og := h.og
    om := h.om
    oc := h.oc
    ow := h.ow
    op := h.op }
theorem PostAt.setP_upd (t : Nat) (a b d e : Value) : Upd (· = tg) own w own ((((w.setCell ⟨bp, t * 4, none⟩ a).setCell ⟨bp, t * 4 + 1, none⟩ b).setCell ⟨bp, t * 4 + 2, none⟩ d).setCell ⟨bp, t * 4 + 3, none⟩ e) :=
  (((set_own h.op _ _).then (set_own h.op _ _)).then (set_own h.op _ _)).then (set_own h.op _ _)
set_option maxRecDepth 100000 in
theorem PostAt.setF (h0 : tg ≠ 0) (id v : Int) (hid : wfI id) (hv : wfI v) (hn : nm < maxLen) : ∃ w', (Instr.mapUpdate 72 (.map (some bm)) (.int .i64 id) (.int .i64 v)).run Try.prog w = .ok () w' ∧ PostAt own w' g tg (S.setF id v) bm c bw bp (nm + 1) s r pps pbuf ∧ Upd (· = tg) own w own w' := by
  have hm0 := h.hm
  obtain ⟨w', hr, hm, hg⟩ := MapIs.set (t := 72) hm0 Try.underlying72 Try.underlying3 (by exact hn) id v hid hv
  have hu : Upd (· = tg) own w own w' := Upd.grown hg (fun k hk => by injection hk with hk; subst hk; exact h.om)
  have hf : ∀ k, k < w.heap.size → k ≠ bm → w'.heap[k]? = w.heap[k]? := fun k hk hne => hg.block k hk (fun e => hne (by injection e))
  exact ⟨w', hr, {
    hb := (hf _ (blk_lt h.hb) h.gm).trans h.hb
    hm := hm
    hc := (hf _ (blk_lt h.hc) h.cm).trans h.hc
    hw := (hf _ (blk_lt h.hw) h.wm).trans h.hw
    hp := (hf _ (blk_lt h.hp) h.pm).trans h.hp
    e1 := h.e1
    e2 := h.e2
    s1 := fun p hp => (h.s1 p hp).upd (S := (· = tg)) (fun e => h0 e.symm) hu
    s2 := fun p hp => (h.s2 p hp).upd (S := (· = tg)) (fun e => h0 e.symm) hu
    ok := { h.ok with }
    og := h.og
    om := h.om
    oc := h.oc
    ow := h.ow
    op := h.op }, hu⟩
theorem PostAt.field (h0 : tg ≠ 0) (S' : PS) (i : Nat) (u : Value) (hcs : (#[.int .u32 S.sum, .int .i64 S.next, .int .i64 S.under, .map (some bm), .chan (some c), .slice (some ⟨bw, 0, none⟩) S.n S.n, .slice (some ⟨bp, 0, none⟩) S.n S.n] : Array Value).setIfInBounds i u = #[.int .u32 S'.sum, .int .i64 S'.next, .int .i64 S'.under, .map (some bm), .chan (some c), .slice (some ⟨bw, 0, none⟩) S'.n S'.n, .slice (some ⟨bp, 0, none⟩) S'.n S'.n])
    (hn : S'.n = S.n) (hf : S'.f = S.f) (hwh : S'.wh = S.wh) (hps : S'.ps = S.ps) (hbuf : S'.buf = S.buf) (hok : S'.Ok) : PostAt own (w.setCell ⟨g, i, none⟩ u) g tg S' bm c bw bp nm s r pps pbuf where
  hb := blk_put h.hb i u hcs
  hm := by rw [hf]; exact h.hm.move (set_far _ _ _ h.gm.symm)
  hc := by rw [hn]; exact (set_far _ _ _ h.gc.symm).trans h.hc
  hw := by rw [hwh]; exact (set_far _ _ _ h.gw.symm).trans h.hw
  hp := (set_far _ _ _ h.gp.symm).trans h.hp
  e1 := by rw [hps]; exact h.e1
  e2 := by rw [hbuf]; exact h.e2
  s1 := fun p hp => (h.s1 p hp).upd (S := (· = tg)) (fun e => h0 e.symm) (set_own h.og _ _)
  s2 := fun p hp => (h.s2 p hp).upd (S := (· = tg)) (fun e => h0 e.symm) (set_own h.og _ _)
  ok := hok
  og := h.og
  om := h.om
  oc := h.oc
  ow := h.ow
  op := h.op
theorem PostAt.setU (h0 : tg ≠ 0) (x : Int) (hx0 : 0 ≤ x) (hx1 : x < S.next) : PostAt own (w.setCell ⟨g, 2, none⟩ (.int .i64 x)) g tg (S.setU x) bm c bw bp nm s r pps pbuf :=
  h.field h0 (S.setU x) 2 _ rfl rfl rfl rfl rfl rfl { h.ok with u1 := hx0, u2 := hx1 }
theorem PostAt.setUN (h0 : tg ≠ 0) (hx : S.next ≤ 9999) : PostAt own ((w.setCell ⟨g, 2, none⟩ (.int .i64 S.next)).setCell ⟨g, 1, none⟩ (.int .i64 (S.next + 1))) g tg ((S.setU S.next).setN (S.next + 1)) bm c bw bp nm s r pps pbuf where
  hb := blk_put (blk_put h.hb 2 _ rfl) 1 _ rfl
  hm := h.hm.move ((set_far _ _ _ h.gm.symm).trans (set_far _ _ _ h.gm.symm))
  hc := ((set_far _ _ _ h.gc.symm).trans (set_far _ _ _ h.gc.symm)).trans h.hc
  hw := ((set_far _ _ _ h.gw.symm).trans (set_far _ _ _ h.gw.symm)).trans h.hw
  hp := ((set_far _ _ _ h.gp.symm).trans (set_far _ _ _ h.gp.symm)).trans h.hp
  e1 := h.e1
  e2 := h.e2
  s1 := fun p hp => (h.s1 p hp).upd (S := (· = tg)) (fun e => h0 e.symm) ((set_own h.og _ _).then (set_own h.og _ _))
  s2 := fun p hp => (h.s2 p hp).upd (S := (· = tg)) (fun e => h0 e.symm) ((set_own h.og _ _).then (set_own h.og _ _))
  ok := { h.ok with x1 := (by have := h.ok.x1; show 1 ≤ S.next + 1; omega), x2 := (by show S.next + 1 ≤ 10000; omega), u1 := (by have := h.ok.x1; show 0 ≤ S.next; omega), u2 := (by show S.next < S.next + 1; omega) }
  og := h.og
  om := h.om
  oc := h.oc
  ow := h.ow
  op := h.op
/-- The channel takes another content. -/
theorem PostAt.chan (h0 : tg ≠ 0) (pbuf' : List (Nat × PP)) (s' r' : Nat) (hs : ∀ e ∈ pbuf', St k40 own w e.2.1 e.2.2) (hn : ((pbuf'.map (·.1))).Nodup) (hw : ∀ e ∈ pbuf', S.wh[e.1]? = some 1) :
    PostAt own (w.setChan c S.n (bufP pbuf') false s' r' false) g tg (S.setB (pbuf'.map fun e => (e.1, e.2.1))) bm c bw bp nm s' r' pps pbuf' where
  hb := (chan_far _ h.gc ..).trans h.hb
  hm := h.hm.move (chan_far _ h.cm.symm ..)
  hc := chan_now w h.hc
  hw := (chan_far _ h.wc ..).trans h.hw
  hp := (chan_far _ h.pc ..).trans h.hp
  e1 := h.e1
  e2 := rfl
  s1 := fun p hp => (h.s1 p hp).upd (S := (· = tg)) (fun e => h0 e.symm) (Upd.chan h.oc ..)
  s2 := fun p hp => (hs p hp).upd (S := (· = tg)) (fun e => h0 e.symm) (Upd.chan h.oc ..)
  ok := { h.ok with nd := (by show (List.map _ (List.map _ pbuf')).Nodup; rw [List.map_map]; exact hn), bw := (fun e he => by obtain ⟨q, hq, rfl⟩ := List.mem_map.1 he; exact hw q hq) }
  og := h.og
  om := h.om
  oc := h.oc
  ow := h.ow
  op := h.op
theorem PostAt.pcell (t : Nat) (ht : t < S.n) : ∃ a b d e, w.cell? ⟨bp, t * 4, none⟩ = some a ∧ w.cell? ⟨bp, t * 4 + 1, none⟩ = some b ∧ w.cell? ⟨bp, t * 4 + 2, none⟩ = some d ∧ w.cell? ⟨bp, t * 4 + 3, none⟩ = some e := by
  have hlt : t < pps.length := by rw [h.lpp]; exact ht
  have h1 := h.l4 pps[t] (List.getElem_mem hlt)
  have hq : pps[t]? = some pps[t] := List.getElem?_eq_getElem hlt
  generalize pps[t] = q at *
  obtain ⟨x, cs⟩ := q
  match cs, h1 with
  | [a, b, d, e], _ =>
    have hg : ∀ j u, j < 4 → ([a, b, d, e] : List Value)[j]? = some u → w.cell? ⟨bp, t * 4 + j, none⟩ = some u := fun j u hj hu => blk_at h.hp _ (by
      have := cellsP_get pps t j _ h.l4 hq hj
      rw [← hu, ← this]
      simp)
    exact ⟨a, b, d, e, hg 0 a (by omega) rfl, hg 1 b (by omega) rfl, hg 2 d (by omega) rfl, hg 3 e (by omega) rfl⟩
theorem PostAt.nodup : (pbuf.map (·.1)).Nodup := by
  have := h.ok.nd
  rw [← h.e2, List.map_map] at this
  exact this
theorem PostAt.waits : ∀ e ∈ pbuf, S.wh[e.1]? = some 1 := fun e he => h.ok.bw (e.1, e.2.1) (by rw [← h.e2]; exact List.mem_map.2 ⟨e, he, rfl⟩)
theorem PostAt.drew : PostAt own w.drew g tg S bm c bw bp nm s r pps pbuf := { h with hm := h.hm.move rfl, s1 := fun p hp => (h.s1 p hp).upd (S := fun _ => False) (fun e => e) Upd.drew, s2 := fun p hp => (h.s2 p hp).upd (S := fun _ => False) (fun e => e) Upd.drew }
end
end Go.Proofs.Ytcbaiplamaopeaa.PPostShots
