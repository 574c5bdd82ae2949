/- The coordinator in memory. -/
import Derived.Test.YtcbaiplamaopeaaLA
import Derived.Test.YtcbaiplamaopeaaMM
namespace Go.Proofs.Ytcbaiplamaopeaa.PPostShots
open Go.RowKit Go.Conc Go.Proofs.YtcbaiplamaopeaaW.PrintWords Go.Proofs.YtcbaiplamaopeaaW.PrintLast Go.Proofs.Ytcbaiplamaopeaa.PPost
set_option linter.unusedVariables false
set_option linter.unusedSimpArgs false

theorem chan_now (w : World) {c : Nat} {cap : Nat} {buf : Array Value} {cl : Bool} {s r : Nat} {tm : Bool} {o : Obj} (h : w.heap[c]? = some o) : (w.setChan c cap buf cl s r tm).heap[c]? = some (.chan cap buf cl s r tm) :=
  heap_setChan w c cap buf cl s r tm (blk_lt h)
theorem chan_far (w : World) {c k : Nat} (h : k ≠ c) (cap : Nat) (buf : Array Value) (cl : Bool) (s r : Nat) (tm : Bool) : (w.setChan c cap buf cl s r tm).heap[k]? = w.heap[k]? := by
  simp only [World.setChan]
  rw [Array.getElem?_setIfInBounds_ne (fun e => h e.symm)]
theorem blk_chan_ne {w : World} {g c : Nat} {cs : Array Value} {t : TypeId} {fr : Nat × Nat} {cap s r : Nat} {buf : Array Value} {cl tm : Bool} (hb : w.heap[g]? = some (.cells cs t fr)) (hc : w.heap[c]? = some (.chan cap buf cl s r tm)) : g ≠ c := fun e => by subst e; rw [hb] at hc; cases hc
theorem blk_map_ne {w : World} {g b n : Nat} {k : TypeId} {cs : Array Value} {t : TypeId} {fr : Nat × Nat} {f : Int → Int} (hb : w.heap[g]? = some (.cells cs t fr)) (hm : MapIs Try.prog k w b n f) : g ≠ b := fun e => by
  subst e
  obtain ⟨es, ⟨e, clock, h1, -⟩, -⟩ := hm
  rw [hb] at h1; cases h1
theorem chan_map_ne {w : World} {c b n : Nat} {k : TypeId} {f : Int → Int} {cap s r : Nat} {buf : Array Value} {cl tm : Bool} (hc : w.heap[c]? = some (.chan cap buf cl s r tm)) (hm : MapIs Try.prog k w b n f) : c ≠ b := fun e => by
  subst e
  obtain ⟨es, ⟨e, clock, h1, -⟩, -⟩ := hm
  rw [hc] at h1; cases h1
/-- A block more: nobody's business. -/
theorem Upd.box {S : Nat → Prop} {own : Nat → Nat} {w : World} (o : Obj) : Upd S own w own (w.alloc o) := .of_below' ((Below.refl _ _).alloc (Nat.le_refl _) _) (fun _ _ => rfl)
theorem Upd.grown {S : Nat → Prop} {own : Nat → Nat} {w w' : World} {row : Option Nat} (h : w.grownBy w' row) (hr : ∀ k, row = some k → S (own k)) : Upd S own w own w' :=
  ⟨h.os, h.tape, h.output, h.size, fun _ _ _ => rfl, fun k hk ho => h.block k hk (fun e => ho (hr k e.symm))⟩
theorem St.made {α : Type} {d : Kd α} {own : Nat → Nat} {w : World} {base : Nat} {x : α} {cs : List Value} (h : d.M w base (fun k => own k = 0) x cs) : St d own w x cs := fun S o2 w2 hS hu =>
  d.K_of_M (d.M_move (fun k hk => hu.block k hk.2.2.1 (by rw [hk.1]; exact hS)) (d.M_bound h))

/-- A part and the cells in which it is read. -/
abbrev PP := S40 × List Value
def cellsP (ps : List PP) : List Value := ps.flatMap (·.2)
def whC (l : List Int) : Array Value := (l.map (Value.int .i64)).toArray
def bufP (l : List (Nat × PP)) : Array Value := (l.map fun e => Value.agg (.int .i64 (e.1 : Nat) :: e.2.2).toArray).toArray
theorem bufP_size (l : List (Nat × PP)) : (bufP l).size = l.length := by simp [bufP]
theorem bufP_push (l : List (Nat × PP)) (e : Nat × PP) : (bufP l).push (.agg (.int .i64 (e.1 : Nat) :: e.2.2).toArray) = bufP (l ++ [e]) := by simp [bufP]
theorem bufP_tail (e : Nat × PP) (l : List (Nat × PP)) : (bufP (e :: l)).extract 1 (bufP (e :: l)).size = bufP l := by
  apply Array.ext'
  simp [bufP, List.take_of_length_le]
theorem bufP_head (e : Nat × PP) (l : List (Nat × PP)) : (bufP (e :: l)).getD 0 undef = .agg (.int .i64 (e.1 : Nat) :: e.2.2).toArray := by simp [bufP]
theorem whC_get (l : List Int) (i : Nat) (h : i < l.length) : (whC l)[i]? = some (.int .i64 (l.getD i 0)) := by simp [whC, h]
theorem whC_set (l : List Int) (i : Nat) (x : Int) : (whC l).setIfInBounds i (.int .i64 x) = whC (l.set i x) := by simp [whC, List.map_set]
theorem cellsP_get : ∀ (ps : List PP) (i j : Nat) (q : PP), (∀ p ∈ ps, p.2.length = 4) → ps[i]? = some q → j < 4 → (cellsP ps)[i * 4 + j]? = q.2[j]?
  | [], i, j, q, _, h, _ => by simp at h
  | p :: ps, 0, j, q, hl, h, hj => by
    simp at h
    subst h
    have := hl p (by simp)
    simp only [cellsP, List.flatMap_cons]
    rw [List.getElem?_append_left (by omega)]
    simp
  | p :: ps, i + 1, j, q, hl, h, hj => by
    have h4 := hl p (by simp)
    simp only [cellsP, List.flatMap_cons]
    rw [List.getElem?_append_right (by omega), h4, show (i + 1) * 4 + j - 4 = i * 4 + j by omega]
    exact cellsP_get ps i j q (fun p hp => hl p (by simp [hp])) (by simpa using h) hj
theorem cellsP_set : ∀ (ps : List PP) (i : Nat) (x : S40) (a b c d : Value), (∀ p ∈ ps, p.2.length = 4) → i < ps.length →
    ((((cellsP ps).set (i * 4) a).set (i * 4 + 1) b).set (i * 4 + 2) c).set (i * 4 + 3) d = cellsP (ps.set i (x, [a, b, c, d]))
  | [], i, x, a, b, c, d, _, h => by simp at h
  | p :: ps, 0, x, a, b, c, d, hl, h => by
    have h4 := hl p (by simp)
    match hp : p.2, h4 with
    | [u0, u1, u2, u3], _ => simp [cellsP, hp]
  | p :: ps, i + 1, x, a, b, c, d, hl, h => by
    have h4 := hl p (by simp)
    have ih := cellsP_set ps i x a b c d (fun p hp => hl p (by simp [hp])) (by simpa using h)
    match hp : p.2, h4 with
    | [u0, u1, u2, u3], _ =>
      have e : (i + 1) * 4 = i * 4 + 4 := by omega
      simp only [cellsP, List.flatMap_cons, hp, List.set_cons_succ] at ih ⊢
      rw [e]
      simp only [List.cons_append, List.nil_append, List.set_cons_succ, List.flatMap_cons, hp, ih, show i * 4 + 4 + 1 = i * 4 + 1 + 1 + 1 + 1 + 1 by omega, show i * 4 + 4 + 2 = i * 4 + 2 + 1 + 1 + 1 + 1 by omega, show i * 4 + 4 + 3 = i * 4 + 3 + 1 + 1 + 1 + 1 by omega, show i * 4 + 4 = i * 4 + 1 + 1 + 1 + 1 by omega]
theorem nodup_le : ∀ (n : Nat) (l : List Nat), l.Nodup → (∀ x ∈ l, x < n) → l.length ≤ n
  | 0, l, _, h => by
    cases l with
    | nil => simp
    | cons a l => exact absurd (h a (by simp)) (by omega)
  | n + 1, l, hn, h => by
    by_cases hm : n ∈ l
    · have := nodup_le n (l.erase n) (hn.erase n) (fun x hx => by
        have h1 := (List.Nodup.mem_erase_iff hn).1 hx
        have h2 := h x h1.2
        have := h1.1
        omega)
      rw [List.length_erase_of_mem hm] at this
      omega
    · have := nodup_le n l hn (fun x hx => by
        have := h x hx
        have : x ≠ n := fun e => hm (e ▸ hx)
        omega)
      omega
/-- What a coordinator knows. -/
structure PS where
  n : Nat
  sum : Int
  next : Int
  under : Int
  f : Int → Int
  wh : List Int
  ps : List S40
  buf : List (Nat × S40)
/-- What is always so. -/
structure PS.Ok (S : PS) : Prop where
  n1 : 1 ≤ S.n
  n2 : S.n ≤ 12
  x1 : 1 ≤ S.next
  x2 : S.next ≤ 10000
  u1 : 0 ≤ S.under
  u2 : S.under < S.next
  lw : S.wh.length = S.n
  lp : S.ps.length = S.n
  nd : (S.buf.map (·.1)).Nodup
  bw : ∀ e ∈ S.buf, S.wh[e.1]? = some 1
/-- It is so in memory, at block g; tg: the tag of its blocks. -/
structure PostAt (own : Nat → Nat) (w : World) (g tg : Nat) (S : PS) (bm c bw bp nm s r : Nat) (pps : List PP) (pbuf : List (Nat × PP)) : Prop where
  hb : w.heap[g]? = some (.cells #[.int .u32 S.sum, .int .i64 S.next, .int .i64 S.under, .map (some bm), .chan (some c), .slice (some ⟨bw, 0, none⟩) S.n S.n, .slice (some ⟨bp, 0, none⟩) S.n S.n] 75 (0, 0))
  hm : MapIs Try.prog 3 w bm nm S.f
  hc : w.heap[c]? = some (.chan S.n (bufP pbuf) false s r false)
  hw : w.heap[bw]? = some (.cells (whC S.wh) 3 (0, 0))
  hp : w.heap[bp]? = some (.cells (cellsP pps).toArray 40 (0, 0))
  e1 : pps.map (·.1) = S.ps
  e2 : pbuf.map (fun e => (e.1, e.2.1)) = S.buf
  s1 : ∀ p ∈ pps, St k40 own w p.1 p.2
  s2 : ∀ e ∈ pbuf, St k40 own w e.2.1 e.2.2
  ok : S.Ok
  og : own g = tg
  om : own bm = tg
  oc : own c = tg
  ow : own bw = tg
  op : own bp = tg
theorem PostAt.upd {own own' : Nat → Nat} {w w' : World} {g tg : Nat} {S : PS} {bm c bw bp nm s r : Nat} {pps : List PP} {pbuf : List (Nat × PP)} {T : Nat → Prop} (h : PostAt own w g tg S bm c bw bp nm s r pps pbuf) (h0 : ¬ T 0) (h1 : ¬ T tg) (hu : Upd T own w own' w') : PostAt own' w' g tg S bm c bw bp nm s r pps pbuf where
  hb := hu.blk h.hb (by rw [h.og]; exact h1)
  hm := h.hm.move (hu.block bm h.hm.lt (by rw [h.om]; exact h1))
  hc := hu.blk h.hc (by rw [h.oc]; exact h1)
  hw := hu.blk h.hw (by rw [h.ow]; exact h1)
  hp := hu.blk h.hp (by rw [h.op]; exact h1)
  e1 := h.e1
  e2 := h.e2
  s1 := fun p hp => (h.s1 p hp).upd h0 hu
  s2 := fun p hp => (h.s2 p hp).upd h0 hu
  ok := h.ok
  og := (hu.same g (blk_lt h.hb) (by rw [h.og]; exact h1)).trans h.og
  om := (hu.same bm h.hm.lt (by rw [h.om]; exact h1)).trans h.om
  oc := (hu.same c (blk_lt h.hc) (by rw [h.oc]; exact h1)).trans h.oc
  ow := (hu.same bw (blk_lt h.hw) (by rw [h.ow]; exact h1)).trans h.ow
  op := (hu.same bp (blk_lt h.hp) (by rw [h.op]; exact h1)).trans h.op
/-- It came to S, by nothing but its own blocks; at most k more entries in its map. -/
def PostTo (own : Nat → Nat) (w : World) (g tg nm : Nat) (S : PS) (w' : World) : Prop := ∃ own' bm c bw bp nm' s r pps pbuf, PostAt own' w' g tg S bm c bw bp nm' s r pps pbuf ∧ Upd (· = tg) own w own' w' ∧ nm' ≤ nm
section
variable {own : Nat → Nat} {w : World} {g tg : Nat} {S : PS} {bm c bw bp nm s r : Nat} {pps : List PP} {pbuf : List (Nat × PP)} (h : PostAt own w g tg S bm c bw bp nm s r pps pbuf)
include h
theorem PostAt.lpp : pps.length = S.n := by rw [← h.ok.lp, ← h.e1, List.length_map]
theorem PostAt.l4 : ∀ p ∈ pps, p.2.length = 4 := fun p hp => (h.s1 p hp).len
theorem PostAt.wcell (i : Nat) (hi : i < S.n) : w.cell? ⟨bw, i, none⟩ = some (.int .i64 (S.wh.getD i 0)) := blk_at h.hw i (whC_get _ _ (by rw [h.ok.lw]; exact hi))
theorem PostAt.gw : g ≠ bw := blk_ne h.hb h.hw (by decide)
theorem PostAt.gp : g ≠ bp := blk_ne h.hb h.hp (by decide)
theorem PostAt.wp : bw ≠ bp := blk_ne h.hw h.hp (by decide)
theorem PostAt.gc : g ≠ c := blk_chan_ne h.hb h.hc
theorem PostAt.wc : bw ≠ c := blk_chan_ne h.hw h.hc
theorem PostAt.pc : bp ≠ c := blk_chan_ne h.hp h.hc
theorem PostAt.gm : g ≠ bm := blk_map_ne h.hb h.hm
theorem PostAt.wm : bw ≠ bm := blk_map_ne h.hw h.hm
theorem PostAt.pm : bp ≠ bm := blk_map_ne h.hp h.hm
theorem PostAt.cm : c ≠ bm := chan_map_ne h.hc h.hm
theorem PostAt.lb : pbuf.length ≤ S.n := by
  have h1 : pbuf.length = (S.buf.map (·.1)).length := by rw [← h.e2]; simp
  rw [h1, ← h.ok.lw]
  refine nodup_le _ _ h.ok.nd (fun t ht => ?_)
  obtain ⟨e, he, rfl⟩ := List.mem_map.1 ht
  exact (List.getElem?_eq_some_iff.1 (h.ok.bw e he)).1
end
end Go.Proofs.Ytcbaiplamaopeaa.PPostShots
