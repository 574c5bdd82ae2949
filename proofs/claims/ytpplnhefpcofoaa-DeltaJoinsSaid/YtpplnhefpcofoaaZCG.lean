/- delta.Join. -/
import Derived.Test.YtpplnhefpcofoaaZCF
import Derived.Test.YtpplnhefpcofoaaZRR
import Derived.Test.YtpplnhefpcofoaaZRHS
namespace Go.Proofs.Ytpplnhefpcofoaa.PDeltaJoin
open Go.RowKit Go.Proofs.YtpplnhefpcofoaaW.PrintWords Go.Proofs.YtpplnhefpcofoaaW.PrintLast
set_option linter.unusedVariables false
set_option linter.unusedSimpArgs false

def anyBoth (ps : List MPS) : Bool := ps.any fun p => p.isL && p.isR
def joinKeepG (set : List S63) (p : MPS) : Option ByteArray := if p.isR = true then some p.r else if fS set p.l = 0 then some p.l else none
def joinGone (set : List S63) (ps : List MPS) : List ByteArray := ps.filterMap (joinKeepG set)
/-- The keys that the second list gives, so far. -/
def rightsS (ps : List MPS) : List ByteArray := ps.filterMap fun p => if p.isR = true then some p.r else none
def joinKeepC (gone : List ByteArray) (p : MPC) : Option S63 := if p.isR = true then some p.r else if fG gone p.l.f0 = 0 then some p.l else none
def joinSet (gone : List ByteArray) (ps : List MPC) : List S63 := ps.filterMap (joinKeepC gone)
def joinKeepF (f : ByteArray → Int) (p : MPC) : Option S63 := if p.isR = true then some p.r else if f p.l.f0 = 0 then some p.l else none
def joinSetF (f : ByteArray → Int) (ps : List MPC) : List S63 := ps.filterMap (joinKeepF f)
/-- What Join answers: number, cells, keys that are gone, the error. -/
def joinP (dn : Int) (ds : List S63) (dg : List ByteArray) (en : Int) (es : List S63) (eg : List ByteArray) : Int × List S63 × List ByteArray × Int :=
  if chkD dn ds dg ≠ 0 then (0, [], [], chkD dn ds dg) else if chkD en es eg ≠ 0 then (0, [], [], chkD en es eg)
  else if anyBoth (mrgS dg eg) = true then (0, [], [], 110)
  else if 64 < (joinSet (rightsS (mrgS dg eg)) (mrgC ds es)).length ∨ 64 < (joinGone es (mrgS dg eg)).length then (0, [], [], 111)
  else (en, joinSet (rightsS (mrgS dg eg)) (mrgC ds es), joinGone es (mrgS dg eg), 0)
def DAns (r : Int × List S63 × List ByteArray × Int) (w : World) (e : Ending) (w' : World) : Prop :=
  ∃ vs vg, e = .returned (.tuple #[.agg #[.int .i64 r.1, vs, vg], .int .i64 r.2.2.2]) ∧ Hid (Kd.R k63 63 w' w.heap.size (fun _ => True) vs r.2.1) ∧ Hid (Kd.R Kd.string 9 w' w.heap.size (fun _ => True) vg r.2.2.1) ∧ Hid (Below w.heap.size w w')
theorem info9 : (Try.prog.info? 9).map (fun i => (i.zero, i.size, i.bytes)) = some (some (.string ⟨#[]⟩), 1, 16) := by kernel_rfl
/-- Between two rounds of the first loop. -/
structure IJ1 (w : World) (L g0 g1 g2 g3 bj bs bg ms mg : Nat) (en : Int) (D0 E0 : Array Value) (es : List S63) (xs : List MPS) (W : World) : Prop where
  hb : Below w.heap.size w W
  sz : L ≤ W.heap.size
  hj : ∃ vg, W.heap[bj]? = some (.cells #[.int .i64 en, .slice none 0 0, vg] 27 (0, 0)) ∧ Kd.R Kd.string 9 W L (fun _ => True) vg (joinGone es xs)
  mgm : ∃ k, k ≤ xs.length ∧ MapS Try.prog 9 3 W mg k (fG (rightsS xs))
  msm : MapS Try.prog 9 3 W ms es.length (fS es)
  bsb : W.heap[bs]? = some (.cells #[.map (some ms)] 65 (0, 0))
  bgb : W.heap[bg]? = some (.cells #[.map (some mg)] 65 (0, 0))
  h0 : W.heap[g0]? = some (.cells D0 27 (0, 0))
  h1 : W.heap[g1]? = some (.cells E0 27 (0, 0))
  h2 : W.heap[g2]? = some (.cells #[.int .i64 0, .slice none 0 0, .slice none 0 0] 27 (0, 0))
  h3 : W.heap[g3]? = some (.cells #[.int .i64 0] 32 (0, 0))
  nb : anyBoth xs = false
theorem IJ1.turn {w : World} {L g0 g1 g2 g3 bj bs bg ms mg : Nat} {en : Int} {D0 E0 : Array Value} {es : List S63} {xs : List MPS} {W W' : World} (hL : w.heap.size ≤ L) (h1 : mg < L) (h2 : ms < L) (ht : Turn L W W') (h : IJ1 w L g0 g1 g2 g3 bj bs bg ms mg en D0 E0 es xs W) : IJ1 w L g0 g1 g2 g3 bj bs bg ms mg en D0 E0 es xs W' := by
  obtain ⟨a1, a2, ⟨vg, a3, a4⟩, ⟨k, a5, a6⟩, a7, a8, a9, b0, b1, b2, b3, b4⟩ := h
  exact ⟨Below.turn a1 ht hL, Nat.le_trans a2 ht.size, ⟨vg, ht.blk a3, R_turn a4 ht⟩, ⟨k, a5, a6.turn ht h1⟩, a7.turn ht h2, ht.blk a8, ht.blk a9, ht.blk b0, ht.blk b1, ht.blk b2, ht.blk b3, b4⟩
/-- A key in both lists: the error is told. -/
structure IX1 (w : World) (g2 g3 : Nat) (ps : List MPS) (W : World) : Prop where
  hb : Below w.heap.size w W
  h2 : W.heap[g2]? = some (.cells #[.int .i64 0, .slice none 0 0, .slice none 0 0] 27 (0, 0))
  h3 : W.heap[g3]? = some (.cells #[.int .i64 110] 32 (0, 0))
  yes : anyBoth ps = true
theorem IX1.turn {w : World} {L g2 g3 : Nat} {ps : List MPS} {W W' : World} (hL : w.heap.size ≤ L) (ht : Turn L W W') (h : IX1 w g2 g3 ps W) : IX1 w g2 g3 ps W' := ⟨Below.turn h.hb ht hL, ht.blk h.h2, ht.blk h.h3, h.yes⟩
/-- Between two rounds of the second loop. -/
structure IJ2 (w : World) (L L1 D g2 g3 bj bg mg : Nat) (en : Int) (vg : Value) (G : List ByteArray) (f : ByteArray → Int) (k : Nat) (xs : List MPC) (W : World) : Prop where
  hb : Below w.heap.size w W
  sz : L ≤ W.heap.size
  hj : ∃ vs, W.heap[bj]? = some (.cells #[.int .i64 en, vs, vg] 27 (0, 0)) ∧ Kd.R k63 63 W L (fun _ => True) vs (joinSetF f xs)
  gr : Kd.R Kd.string 9 W L1 (fun _ => True) vg G
  mgm : MapS Try.prog 9 3 W mg k f
  bgb : W.heap[bg]? = some (.cells #[.map (some mg)] 65 (0, 0))
  h2 : W.heap[g2]? = some (.cells #[.int .i64 0, .slice none 0 0, .slice none 0 0] 27 (0, 0))
  h3 : W.heap[g3]? = some (.cells #[.int .i64 0] 32 (0, 0))
  hd : W.heap[D]? = some (.deferred (some []))
theorem IJ2.turn {w : World} {L L1 D g2 g3 bj bg mg : Nat} {en : Int} {vg : Value} {G : List ByteArray} {f : ByteArray → Int} {k : Nat} {xs : List MPC} {W W' : World} (hL : w.heap.size ≤ L) (h1 : mg < L) (h2 : D < L) (ht : Turn L W W') (h : IJ2 w L L1 D g2 g3 bj bg mg en vg G f k xs W) : IJ2 w L L1 D g2 g3 bj bg mg en vg G f k xs W' := by
  obtain ⟨a1, a2, ⟨vs, a3, a4⟩, a5, a6, a7, a8, a9, b1⟩ := h
  exact ⟨Below.turn a1 ht hL, Nat.le_trans a2 ht.size, ⟨vs, ht.blk a3, R_turn a4 ht⟩, R_turn a5 ht, a6.turn ht h1, ht.blk a7, ht.blk a8, ht.blk a9, (ht.low D h2 (Array.getElem?_eq_some_iff.1 b1).1).trans b1⟩
theorem bodyD_two {P : Program} {fn : Func} {R : Ending → World → Prop} {a : Act} {w : World} {D D' : Nat} (hd : a.defers = [{ target := .collected D, args := #[] }, { target := .collected D', args := #[] }]) (hK : w.heap[D]? = some (.deferred (some []))) (hK' : (w.putObj D (.deferred none)).heap[D']? = some (.deferred (some []))) (h : bodyPost P fn R .ret { a with defers := [] } ((w.putObj D (.deferred none)).putObj D' (.deferred none))) : BodyD P fn R .ret a w := by
  obtain ⟨_, v, h1, h2⟩ := h
  exact ⟨[D, D'], hd, hK, hK', v, h1, h2⟩
theorem fG_snoc (l : List ByteArray) (x : ByteArray) : (fun y => if y = x then 1 else fG l y) = fG (l ++ [x]) := by
  funext y
  unfold fG
  rw [List.any_append, List.any_cons, List.any_nil]
  by_cases hy : y = x
  · rw [if_pos hy, decide_eq_true hy.symm]; simp
  · rw [if_neg hy, decide_eq_false (fun e => hy e.symm), show (false || false) = false from rfl, Bool.or_false]
theorem filterMap_snoc {α β : Type} (f : α → Option β) (xs : List α) (x : α) : (xs ++ [x]).filterMap f = match f x with | none => xs.filterMap f | some c => xs.filterMap f ++ [c] := by
  rw [List.filterMap_append]
  cases h : f x with
  | none => simp [List.filterMap_cons, h]
  | some c => simp [List.filterMap_cons, h]
def plS {w0 : World} {a b : List ByteArray} (xs : List {x : PVS w0 // x.p ∈ mrgS a b}) : List MPS := xs.map (fun x => x.1.p)
theorem plS_snoc {w0 : World} {a b : List ByteArray} (xs : List {x : PVS w0 // x.p ∈ mrgS a b}) (x : {x : PVS w0 // x.p ∈ mrgS a b}) : plS (xs ++ [x]) = plS xs ++ [x.1.p] := by unfold plS; rw [List.map_append]; rfl
theorem mrgS_mem : ∀ (N : Nat) (a b : List ByteArray), a.length + b.length ≤ N → ∀ p ∈ mrgS a b, (p.isL = true → p.l ∈ a) ∧ (p.isR = true → p.r ∈ b) ∧ (p.isL = false → p.isR = true)
  | _, [], [], _, p, hp => by rw [mrgS_nil] at hp; cases hp
  | 0, _ :: _, _, h, _, _ => by simp at h
  | 0, [], _ :: _, h, _, _ => by simp at h
  | N + 1, x :: a, [], h, p, hp => by
    rw [mrgS_l] at hp
    rcases List.mem_cons.1 hp with rfl | hp
    · simp
    · have := mrgS_mem N a [] (by simp at h ⊢; omega) p hp
      exact ⟨fun e => List.mem_cons_of_mem _ (this.1 e), this.2⟩
  | N + 1, [], y :: b, h, p, hp => by
    rw [mrgS_r] at hp
    rcases List.mem_cons.1 hp with rfl | hp
    · simp
    · have := mrgS_mem N [] b (by simp at h ⊢; omega) p hp
      exact ⟨this.1, fun e => List.mem_cons_of_mem _ (this.2.1 e), this.2.2⟩
  | N + 1, x :: a, y :: b, h, p, hp => by
    rw [mrgS] at hp
    simp only [List.length_cons] at h
    split at hp
    · split at hp
      · rcases List.mem_cons.1 hp with rfl | hp
        · simp
        · have := mrgS_mem N a b (by omega) p hp
          exact ⟨fun e => List.mem_cons_of_mem _ (this.1 e), fun e => List.mem_cons_of_mem _ (this.2.1 e), this.2.2⟩
      · rcases List.mem_cons.1 hp with rfl | hp
        · simp
        · have := mrgS_mem N a (y :: b) (by simp only [List.length_cons]; omega) p hp
          exact ⟨fun e => List.mem_cons_of_mem _ (this.1 e), this.2⟩
    · rcases List.mem_cons.1 hp with rfl | hp
      · simp
      · have := mrgS_mem N (x :: a) b (by simp only [List.length_cons]; omega) p hp
        exact ⟨this.1, fun e => List.mem_cons_of_mem _ (this.2.1 e), this.2.2⟩
set_option maxRecDepth 100000 in
set_option maxHeartbeats 16000000 in
theorem join20 (dn : Int) (ds : List S63) (dg : List ByteArray) (en : Int) (es : List S63) (eg : List ByteArray) (A DG B EG : Option Addr) (ca cp cb cq : Nat) (w : World) (hA : Kd.C k63 w A ds.length ds) (hD : Kd.C Kd.string w DG dg.length dg) (hB : Kd.C k63 w B es.length es) (hE : Kd.C Kd.string w EG eg.length eg) :
    Calls Try.prog 20 #[.agg #[.int .i64 dn, .slice A ds.length ca, .slice DG dg.length cp], .agg #[.int .i64 en, .slice B es.length cb, .slice EG eg.length cq]] w fun e w' => DAns (joinP dn ds dg en es eg) w e w' := by
  have HTd : Hid (∀ W, Below w.heap.size w W → Calls Try.prog 14 #[.agg #[.int .i64 dn, .slice A ds.length ca, .slice DG dg.length cp]] W fun e w' => e = .returned (.int .i64 (chkD dn ds dg)) ∧ Hid (Below W.heap.size W w')) := Lib.hid (fun W hW => check14 dn ds dg A DG ca cp W (Kd.C_below hA hW) (Kd.C_below hD hW))
  have HTe : Hid (∀ W, Below w.heap.size w W → Calls Try.prog 14 #[.agg #[.int .i64 en, .slice B es.length cb, .slice EG eg.length cq]] W fun e w' => e = .returned (.int .i64 (chkD en es eg)) ∧ Hid (Below W.heap.size W w')) := Lib.hid (fun W hW => check14 en es eg B EG cb cq W (Kd.C_below hB hW) (Kd.C_below hE hW))
  obtain ⟨n, hn⟩ : ∃ n, n = ds.length := ⟨_, rfl⟩
  obtain ⟨m, hm⟩ : ∃ m, m = es.length := ⟨_, rfl⟩
  obtain ⟨p, hp⟩ : ∃ p, p = dg.length := ⟨_, rfl⟩
  obtain ⟨q, hq⟩ : ∃ q, q = eg.length := ⟨_, rfl⟩
  have HA := Lib.hid hA
  have HB := Lib.hid hB
  have HDG := Lib.hid hD
  have HEG := Lib.hid hE
  have Hn := Lib.hid hn
  have Hm := Lib.hid hm
  have Hp := Lib.hid hp
  have Hq := Lib.hid hq
  rw [← hn, ← hp] at HTd ⊢
  rw [← hm, ← hq] at HTe ⊢
  clear hA hB hD hE hn hm hp hq
  have H0 : Hid (((((w.alloc (.cells #[.int .i64 dn, .slice A n ca, .slice DG p cp] 27)).alloc (.cells #[.int .i64 en, .slice B m cb, .slice EG q cq] 27)).alloc (.cells #[.int .i64 0, .slice none 0 0, .slice none 0 0] 27)).alloc (.cells #[.int .i64 0] 32)).heap[w.heap.size]? = some (.cells #[.int .i64 dn, .slice A n ca, .slice DG p cp] 27 (0, 0))) := Lib.hid (blk_alloc (blk_alloc (blk_alloc (blk_new w _) _) _) _)
  have H1 : Hid (((((w.alloc (.cells #[.int .i64 dn, .slice A n ca, .slice DG p cp] 27)).alloc (.cells #[.int .i64 en, .slice B m cb, .slice EG q cq] 27)).alloc (.cells #[.int .i64 0, .slice none 0 0, .slice none 0 0] 27)).alloc (.cells #[.int .i64 0] 32)).heap[(w.heap.size + 1)]? = some (.cells #[.int .i64 en, .slice B m cb, .slice EG q cq] 27 (0, 0))) := Lib.hid (by
    have := blk_new (w.alloc (.cells #[.int .i64 dn, .slice A n ca, .slice DG p cp] 27)) (.cells #[.int .i64 en, .slice B m cb, .slice EG q cq] 27)
    rw [World.size_alloc] at this
    exact blk_alloc (blk_alloc this _) _)
  have H2 : Hid (((((w.alloc (.cells #[.int .i64 dn, .slice A n ca, .slice DG p cp] 27)).alloc (.cells #[.int .i64 en, .slice B m cb, .slice EG q cq] 27)).alloc (.cells #[.int .i64 0, .slice none 0 0, .slice none 0 0] 27)).alloc (.cells #[.int .i64 0] 32)).heap[(w.heap.size + 1 + 1)]? = some (.cells #[.int .i64 0, .slice none 0 0, .slice none 0 0] 27 (0, 0))) := Lib.hid (by
    have := blk_new ((w.alloc (.cells #[.int .i64 dn, .slice A n ca, .slice DG p cp] 27)).alloc (.cells #[.int .i64 en, .slice B m cb, .slice EG q cq] 27)) (.cells #[.int .i64 0, .slice none 0 0, .slice none 0 0] 27)
    rw [World.size_alloc, World.size_alloc] at this
    exact blk_alloc this _)
  have H3 : Hid (((((w.alloc (.cells #[.int .i64 dn, .slice A n ca, .slice DG p cp] 27)).alloc (.cells #[.int .i64 en, .slice B m cb, .slice EG q cq] 27)).alloc (.cells #[.int .i64 0, .slice none 0 0, .slice none 0 0] 27)).alloc (.cells #[.int .i64 0] 32)).heap[(w.heap.size + 1 + 1 + 1)]? = some (.cells #[.int .i64 0] 32 (0, 0))) := Lib.hid (by
    have := blk_new (((w.alloc (.cells #[.int .i64 dn, .slice A n ca, .slice DG p cp] 27)).alloc (.cells #[.int .i64 en, .slice B m cb, .slice EG q cq] 27)).alloc (.cells #[.int .i64 0, .slice none 0 0, .slice none 0 0] 27)) (.cells #[.int .i64 0] 32)
    rw [World.size_alloc, World.size_alloc, World.size_alloc] at this
    exact this)
  have HW : Hid (Below w.heap.size w ((((w.alloc (.cells #[.int .i64 dn, .slice A n ca, .slice DG p cp] 27)).alloc (.cells #[.int .i64 en, .slice B m cb, .slice EG q cq] 27)).alloc (.cells #[.int .i64 0, .slice none 0 0, .slice none 0 0] 27)).alloc (.cells #[.int .i64 0] 32))) := Lib.hid (((((Below.refl _ w).alloc (Nat.le_refl _) _).alloc (by simp) _).alloc (by simp; omega) _).alloc (by simp; omega) _)
  refine calls_of_marks Try.func20 rfl ?_
  simp only [Try.ntmps20, List.size_toArray, List.length_cons, List.length_nil, Nat.reduceAdd, Nat.reduceSub, Array.replicate_succ, Array.replicate_zero, List.push_toArray, List.append_toArray, List.nil_append, List.cons_append]
  go_upto_region 1 with (fail)
  obtain ⟨g3, e3⟩ : ∃ g, g = w.heap.size + 1 + 1 + 1 := ⟨_, rfl⟩
  rw [← e3] at H3 ⊢
  obtain ⟨g2, e2⟩ : ∃ g, g = w.heap.size + 1 + 1 := ⟨_, rfl⟩
  rw [← e2] at H2 ⊢
  obtain ⟨g1, e1⟩ : ∃ g, g = w.heap.size + 1 := ⟨_, rfl⟩
  rw [← e1] at H1 ⊢
  obtain ⟨g0, e0⟩ : ∃ g, g = w.heap.size := ⟨_, rfl⟩
  rw [← e0] at H0 ⊢
  have HE : Hid (g0 = w.heap.size ∧ g1 = w.heap.size + 1 ∧ g2 = w.heap.size + 2 ∧ g3 = w.heap.size + 3) := Lib.hid ⟨e0, e1, by omega, by omega⟩
  have l23 : g2 ≠ g3 := by omega
  have l32 : g3 ≠ g2 := by omega
  clear e0 e1 e2 e3
  generalize ((((w.alloc (.cells #[.int .i64 dn, .slice A n ca, .slice DG p cp] 27)).alloc (.cells #[.int .i64 en, .slice B m cb, .slice EG q cq] 27)).alloc (.cells #[.int .i64 0, .slice none 0 0, .slice none 0 0] 27)).alloc (.cells #[.int .i64 0] 32)) = wa at *
  generalize hz1 : chkD dn ds dg = z1 at *
  have HZ1 := Lib.hid hz1
  clear hz1
  generalize hz2 : chkD en es eg = z2 at *
  have HZ2 := Lib.hid hz2
  clear hz2
  have a0 : wa.cell? ⟨g0, 0, none⟩ = some (.int .i64 dn) := blk_at H0.out 0 rfl
  have a1 : wa.cell? ⟨g0, 1, none⟩ = some (.slice A n ca) := blk_at H0.out 1 rfl
  have a2 : wa.cell? ⟨g0, 2, none⟩ = some (.slice DG p cp) := blk_at H0.out 2 rfl
  by_cases hz0 : z1 = 0
  rotate_left
  · have HR : Hid (joinP dn ds dg en es eg = (0, [], [], z1)) := Lib.hid (by unfold joinP; rw [HZ1.out, if_pos hz0])
    have k1 : (z1 == 0) = false := beq_false_of_ne hz0
    have k2 : (z1 != 0) = true := by simp [hz0]
    clear hz0
    go_wp2_with (go_at_call 14; refine (HTd.out _ HW.out).mono ?_; rintro e w1 ⟨rfl, hb1⟩
                 have HWe : Hid (Below w.heap.size w w1) := HW.out.trans (hb1.out.mono HW.out.size)
                 have K2 := Lib.hid (blk_below H2.out hb1.out)
                 have K3 := Lib.hid (blk_below H3.out hb1.out)
                 clear hb1 a0 a1 a2
                 have x0 : w1.cell? ⟨g2, 0, none⟩ = some (.int .i64 0) := blk_at K2.out 0 rfl
                 have y0 : w1.frozen? ⟨g2, 0, none⟩ = false := blk_frozen K2.out 0
                 have x1 : w1.cell? ⟨g2, 1, none⟩ = some (.slice none 0 0) := blk_at K2.out 1 rfl
                 have y1 : w1.frozen? ⟨g2, 1, none⟩ = false := blk_frozen K2.out 1
                 have x2 : w1.cell? ⟨g2, 2, none⟩ = some (.slice none 0 0) := blk_at K2.out 2 rfl
                 have y2 : w1.frozen? ⟨g2, 2, none⟩ = false := blk_frozen K2.out 2
                 have u0 : w1.cell? ⟨g3, 0, none⟩ = some (.int .i64 0) := blk_at K3.out 0 rfl
                 have v0 : w1.frozen? ⟨g3, 0, none⟩ = false := blk_frozen K3.out 0
                 skip)
    have hb4 : ((((w1.setCell ⟨g2, 0, none⟩ (.int .i64 0)).setCell ⟨g2, 1, none⟩ (.slice none 0 0)).setCell ⟨g2, 2, none⟩ (.slice none 0 0)).setCell ⟨g3, 0, none⟩ (.int .i64 z1)).heap[g2]? = some (.cells #[.int .i64 0, .slice none 0 0, .slice none 0 0] 27 (0, 0)) := blk_far (blk_put (blk_put (blk_put K2.out 0 _ rfl) 1 _ rfl) 2 _ rfl) l23 _
    have hb5 : ((((w1.setCell ⟨g2, 0, none⟩ (.int .i64 0)).setCell ⟨g2, 1, none⟩ (.slice none 0 0)).setCell ⟨g2, 2, none⟩ (.slice none 0 0)).setCell ⟨g3, 0, none⟩ (.int .i64 z1)).heap[g3]? = some (.cells #[.int .i64 z1] 32 (0, 0)) := blk_put (blk_far (blk_far (blk_far K3.out l32 _) l32 _) l32 _) 0 _ rfl
    refine bodyD_ret (bodyPost_ret (results_two rfl rfl rfl hb4 hb5 Try.underlying27 rfl (by kernel_rfl) Try.underlying32) rfl ?_)
    rw [HR.out]
    exact ⟨.slice none 0 0, .slice none 0 0, rfl, Lib.hid (Kd.R_nil _ _ _ _ _), Lib.hid (Kd.R_nil _ _ _ _ _), Lib.hid ((((HWe.out.setCell (show w.heap.size ≤ g2 by have := HE.out; omega) _).setCell (show w.heap.size ≤ g2 by have := HE.out; omega) _).setCell (show w.heap.size ≤ g2 by have := HE.out; omega) _).setCell (show w.heap.size ≤ g3 by have := HE.out; omega) _)⟩
  subst hz0
  go_upto_region 4 with (go_at_call 14; refine (HTd.out _ HW.out).mono ?_; rintro e w1 ⟨rfl, hb1⟩
                         have HW1 : Hid (Below w.heap.size w w1) := HW.out.trans (hb1.out.mono HW.out.size)
                         have K0 := Lib.hid (blk_below H0.out hb1.out)
                         have K1 := Lib.hid (blk_below H1.out hb1.out)
                         have K2 := Lib.hid (blk_below H2.out hb1.out)
                         have K3 := Lib.hid (blk_below H3.out hb1.out)
                         clear hb1)
  clear a0 a1 a2 H0 H1 H2 H3 HW HTd
  have a0 : w1.cell? ⟨g1, 0, none⟩ = some (.int .i64 en) := blk_at K1.out 0 rfl
  have a1 : w1.cell? ⟨g1, 1, none⟩ = some (.slice B m cb) := blk_at K1.out 1 rfl
  have a2 : w1.cell? ⟨g1, 2, none⟩ = some (.slice EG q cq) := blk_at K1.out 2 rfl
  by_cases hz0 : z2 = 0
  rotate_left
  · have HR : Hid (joinP dn ds dg en es eg = (0, [], [], z2)) := Lib.hid (by unfold joinP; rw [HZ1.out, if_neg (by simp), HZ2.out, if_pos hz0])
    have Q2 := K2
    have Q3 := K3
    clear K2 K3
    have k1 : (z2 == 0) = false := beq_false_of_ne hz0
    have k2 : (z2 != 0) = true := by simp [hz0]
    clear hz0
    go_wp2_with (go_at_call 14; refine (HTe.out _ HW1.out).mono ?_; rintro e w2 ⟨rfl, hb1⟩
                 have HWe : Hid (Below w.heap.size w w2) := HW1.out.trans (hb1.out.mono HW1.out.size)
                 have K2 := Lib.hid (blk_below Q2.out hb1.out)
                 have K3 := Lib.hid (blk_below Q3.out hb1.out)
                 clear hb1 a0 a1 a2
                 have x0 : w2.cell? ⟨g2, 0, none⟩ = some (.int .i64 0) := blk_at K2.out 0 rfl
                 have y0 : w2.frozen? ⟨g2, 0, none⟩ = false := blk_frozen K2.out 0
                 have x1 : w2.cell? ⟨g2, 1, none⟩ = some (.slice none 0 0) := blk_at K2.out 1 rfl
                 have y1 : w2.frozen? ⟨g2, 1, none⟩ = false := blk_frozen K2.out 1
                 have x2 : w2.cell? ⟨g2, 2, none⟩ = some (.slice none 0 0) := blk_at K2.out 2 rfl
                 have y2 : w2.frozen? ⟨g2, 2, none⟩ = false := blk_frozen K2.out 2
                 have u0 : w2.cell? ⟨g3, 0, none⟩ = some (.int .i64 0) := blk_at K3.out 0 rfl
                 have v0 : w2.frozen? ⟨g3, 0, none⟩ = false := blk_frozen K3.out 0
                 skip)
    have hb4 : ((((w2.setCell ⟨g2, 0, none⟩ (.int .i64 0)).setCell ⟨g2, 1, none⟩ (.slice none 0 0)).setCell ⟨g2, 2, none⟩ (.slice none 0 0)).setCell ⟨g3, 0, none⟩ (.int .i64 z2)).heap[g2]? = some (.cells #[.int .i64 0, .slice none 0 0, .slice none 0 0] 27 (0, 0)) := blk_far (blk_put (blk_put (blk_put K2.out 0 _ rfl) 1 _ rfl) 2 _ rfl) l23 _
    have hb5 : ((((w2.setCell ⟨g2, 0, none⟩ (.int .i64 0)).setCell ⟨g2, 1, none⟩ (.slice none 0 0)).setCell ⟨g2, 2, none⟩ (.slice none 0 0)).setCell ⟨g3, 0, none⟩ (.int .i64 z2)).heap[g3]? = some (.cells #[.int .i64 z2] 32 (0, 0)) := blk_put (blk_far (blk_far (blk_far K3.out l32 _) l32 _) l32 _) 0 _ rfl
    refine bodyD_ret (bodyPost_ret (results_two rfl rfl rfl hb4 hb5 Try.underlying27 rfl (by kernel_rfl) Try.underlying32) rfl ?_)
    rw [HR.out]
    exact ⟨.slice none 0 0, .slice none 0 0, rfl, Lib.hid (Kd.R_nil _ _ _ _ _), Lib.hid (Kd.R_nil _ _ _ _ _), Lib.hid ((((HWe.out.setCell (show w.heap.size ≤ g2 by have := HE.out; omega) _).setCell (show w.heap.size ≤ g2 by have := HE.out; omega) _).setCell (show w.heap.size ≤ g2 by have := HE.out; omega) _).setCell (show w.heap.size ≤ g3 by have := HE.out; omega) _)⟩
  subst hz0
  go_upto_region 7 with (go_at_call 14; refine (HTe.out _ HW1.out).mono ?_; rintro e w2 ⟨rfl, hb1⟩
                         have HW2 : Hid (Below w.heap.size w w2) := HW1.out.trans (hb1.out.mono HW1.out.size)
                         have H0 := Lib.hid (blk_below K0.out hb1.out)
                         have H1 := Lib.hid (blk_below K1.out hb1.out)
                         have H2 := Lib.hid (blk_below K2.out hb1.out)
                         have H3 := Lib.hid (blk_below K3.out hb1.out)
                         clear hb1)
  clear a0 a1 a2 K0 K1 K2 K3 HW1 HTe
  have HOD := Lib.hid (chkD_ok HZ1.out)
  have HOE := Lib.hid (chkD_ok HZ2.out)
  have hp64 : p ≤ 64 := by have := HOD.out.2.1; have := Hp.out; omega
  have hq64 : q ≤ 64 := by have := HOE.out.2.1; have := Hq.out; omega
  have hn64 : n ≤ 64 := by have := (chkS_ok HOD.out.1).1; have := Hn.out; omega
  have hm64 : m ≤ 64 := by have := (chkS_ok HOE.out.1).1; have := Hm.out; omega
  have hmk := fun W => run_makeMap (P := Try.prog) (w := W) 65
  have hal : ∀ (o o' o'' o4 : Obj), Below w2.heap.size w2 ((((w2.alloc o).alloc o').alloc o'').alloc o4) := fun o o' o'' o4 => ((((Below.refl _ w2).alloc (Nat.le_refl _) _).alloc (by simp) _).alloc (by simp; omega) _).alloc (by simp; omega) _
  have hbl := hal (.map #[] 0) (.map #[] 0) (.cells #[.map (some w2.heap.size)] 65) (.cells #[.map (some (w2.heap.size + 1))] 65)
  have HMG : Hid (MapS Try.prog 9 3 ((((w2.alloc (.map #[] 0)).alloc (.map #[] 0)).alloc (.cells #[.map (some w2.heap.size)] 65)).alloc (.cells #[.map (some (w2.heap.size + 1))] 65)) w2.heap.size 0 (fG [])) := Lib.hid (by
    have e : fG [] = fun _ => 0 := by funext y; rfl
    rw [e]
    exact (MapS.made _ _ _ w2).move (((Below.heap_alloc _ _ _ (by simp; omega)).trans (Below.heap_alloc _ _ _ (by simp; omega))).trans (Below.heap_alloc _ _ _ (by simp))))
  have HMS : Hid (MapS Try.prog 9 3 ((((w2.alloc (.map #[] 0)).alloc (.map #[] 0)).alloc (.cells #[.map (some w2.heap.size)] 65)).alloc (.cells #[.map (some (w2.heap.size + 1))] 65)) (w2.heap.size + 1) 0 (fS (es.take 0))) := Lib.hid (by
    have e : fS (es.take 0) = fun _ => 0 := by funext y; rfl
    rw [e]
    have := MapS.made Try.prog 9 3 (w2.alloc (.map #[] 0))
    rw [World.size_alloc] at this
    exact this.move ((Below.heap_alloc _ _ _ (by simp)).trans (Below.heap_alloc _ _ _ (by simp))))
  have HBG : Hid (((((w2.alloc (.map #[] 0)).alloc (.map #[] 0)).alloc (.cells #[.map (some w2.heap.size)] 65)).alloc (.cells #[.map (some (w2.heap.size + 1))] 65)).heap[w2.heap.size + 1 + 1]? = some (.cells #[.map (some w2.heap.size)] 65 (0, 0))) := Lib.hid (by
    have := blk_new ((w2.alloc (.map #[] 0)).alloc (.map #[] 0)) (.cells #[.map (some w2.heap.size)] 65)
    rw [World.size_alloc, World.size_alloc] at this
    exact blk_alloc this _)
  have HBS : Hid (((((w2.alloc (.map #[] 0)).alloc (.map #[] 0)).alloc (.cells #[.map (some w2.heap.size)] 65)).alloc (.cells #[.map (some (w2.heap.size + 1))] 65)).heap[w2.heap.size + 1 + 1 + 1]? = some (.cells #[.map (some (w2.heap.size + 1))] 65 (0, 0))) := Lib.hid (by
    have := blk_new (((w2.alloc (.map #[] 0)).alloc (.map #[] 0)).alloc (.cells #[.map (some w2.heap.size)] 65)) (.cells #[.map (some (w2.heap.size + 1))] 65)
    rw [World.size_alloc, World.size_alloc, World.size_alloc] at this
    exact this)
  have G0 := Lib.hid (blk_below H0.out hbl)
  have G1 := Lib.hid (blk_below H1.out hbl)
  have G2 := Lib.hid (blk_below H2.out hbl)
  have G3 := Lib.hid (blk_below H3.out hbl)
  have HW3 : Hid (Below w.heap.size w ((((w2.alloc (.map #[] 0)).alloc (.map #[] 0)).alloc (.cells #[.map (some w2.heap.size)] 65)).alloc (.cells #[.map (some (w2.heap.size + 1))] 65))) := HW2.out.trans (hbl.mono HW2.out.size)
  go_upto_region 8 with (fail)
  clear hmk hal hbl HW2
  obtain ⟨bs, hbs⟩ : ∃ b, b = w2.heap.size + 1 + 1 + 1 := ⟨_, rfl⟩
  rw [← hbs] at HBS ⊢
  obtain ⟨bg, hbg⟩ : ∃ b, b = w2.heap.size + 1 + 1 := ⟨_, rfl⟩
  rw [← hbg] at HBG ⊢
  obtain ⟨ms, hms⟩ : ∃ b, b = w2.heap.size + 1 := ⟨_, rfl⟩
  rw [← hms] at HMS HBS HBG HMG HW3 G0 G1 G2 G3 ⊢
  obtain ⟨mg, hmg⟩ : ∃ b, b = w2.heap.size := ⟨_, rfl⟩
  rw [← hmg] at HMS HMG HBG HBS HW3 G0 G1 G2 G3 ⊢
  have HMB : Hid (g3 < mg ∧ ms = mg + 1 ∧ bg = mg + 2 ∧ bs = mg + 3) := Lib.hid ⟨by rw [hmg]; exact blk_lt H3.out, by omega, by omega, by omega⟩
  clear hbs hbg hms hmg H0 H1 H2 H3
  generalize (((w2.alloc (.map #[] 0)).alloc (.map #[] 0)).alloc (.cells #[.map (some mg)] 65)).alloc (.cells #[.map (some ms)] 65) = w3 at *
  have a1 : w3.cell? ⟨g1, 1, none⟩ = some (.slice B m cb) := blk_at G1.out 1 rfl
  go_wp2_with (fail)
  clear a1
  go_loopw [11, 32] (fun v11 v32 wr => ∃ k : Nat, k ≤ m ∧ v32 = .int .i64 k ∧ Hid (MapS Try.prog 9 3 wr ms k (fS (es.take k))) ∧ Hid (MapS Try.prog 9 3 wr mg 0 (fG [])) ∧ Hid (wr.heap[bs]? = some (.cells #[.map (some ms)] 65 (0, 0))) ∧ Hid (wr.heap[bg]? = some (.cells #[.map (some mg)] 65 (0, 0))) ∧ Hid (Below w.heap.size w wr) ∧ Hid (wr.heap[g0]? = some (.cells #[.int .i64 dn, .slice A n ca, .slice DG p cp] 27 (0, 0))) ∧ Hid (wr.heap[g1]? = some (.cells #[.int .i64 en, .slice B m cb, .slice EG q cq] 27 (0, 0))) ∧ Hid (wr.heap[g2]? = some (.cells #[.int .i64 0, .slice none 0 0, .slice none 0 0] 27 (0, 0))) ∧ Hid (wr.heap[g3]? = some (.cells #[.int .i64 0] 32 (0, 0)))) (fun _ v32 _ => m - (intOf v32).toNat)
  case atStart => exact ⟨0, Nat.zero_le _, rfl, HMS, HMG, HBS, HBG, HW3, G0, G1, G2, G3⟩
  case round =>
    clear HMS HMG HBS HBG HW3 G0 G1 G2 G3
    obtain ⟨k, hk, rfl, HMS, HMG, HBS, HBG, HW, G0, G1, G2, G3⟩ := hrel
    by_cases hlt : k < m
    · obtain ⟨ad, A1, c1, hA1, e0, e1, hl1, hC1⟩ := at_T63 HB.out (k : Int) (by omega) (by rw [← Hm.out]; omega)
      subst hA1
      have hmem : rd_T63 es (k : Int) ∈ es := getD_mem _ _ _ (by rw [Int.toNat_natCast, ← Hm.out]; exact hlt)
      have hst := fS_step es k (by rw [← Hm.out]; exact hlt)
      have hcd : es.getD k z63 = rd_T63 es (k : Int) := by unfold rd_T63; rw [Int.toNat_natCast]
      rw [hcd] at hst
      have hc12 := (chkCells_ok es none (chkS_ok HOE.out.1).2.1 _ hmem).1
      clear hcd hmem
      generalize rd_T63 es (k : Int) = c at *
      generalize c.f1.length = lc at *
      rw [Int.toNat_natCast] at e0 e1
      replace e0 := pw_cell_below HW.out e0
      replace e1 := pw_cell_below HW.out e1
      have hba : Below wr.heap.size wr (wr.alloc (.cells #[.string c.f0, .slice A1 lc c1] 63)) := (Below.refl _ _).alloc (Nat.le_refl _) _
      have HXc := Lib.hid (blk_new wr (.cells #[.string c.f0, .slice A1 lc c1] 63))
      have HWa : Hid (Below w.heap.size w (wr.alloc (.cells #[.string c.f0, .slice A1 lc c1] 63))) := HW.out.alloc HW.out.size _
      have hma : MapS Try.prog 9 3 (wr.alloc (.cells #[.string c.f0, .slice A1 lc c1] 63)) ms k (fS (es.take k)) := HMS.out.move (Below.heap_alloc _ _ _ HMS.out.lt)
      have HBSa := Lib.hid (blk_below HBS.out hba)
      obtain ⟨w', hrun, hm', hg'⟩ := hma.set (t := 65) Try.underlying65 Try.underlying9 Try.underlying3 (Nat.lt_of_lt_of_le hlt (Nat.le_trans hm64 (by decide))) c.f0 1 (small_max hc12) wf1
      rw [hst] at hm'
      have HMS' := Lib.hid hm'
      have hgb : ∀ g, g ≠ ms → some g ≠ some ms := fun g h e => h (by injection e)
      have hne : bs ≠ ms ∧ bg ≠ ms ∧ g0 ≠ ms ∧ g1 ≠ ms ∧ g2 ≠ ms ∧ g3 ≠ ms ∧ mg ≠ ms ∧ w.heap.size ≤ ms := by have := HMB.out; have := HE.out; omega
      have HW' : Hid (Below w.heap.size w w') := Lib.hid (below_grown HWa.out hg' hne.2.2.2.2.2.2.2)
      have HMG' : Hid (MapS Try.prog 9 3 w' mg 0 (fG [])) := Lib.hid ((HMG.out.move (Below.heap_alloc _ _ _ HMG.out.lt)).move (hg'.block _ (by have := HMG.out.lt; simp; omega) (hgb _ hne.2.2.2.2.2.2.1)))
      have HBS' := Lib.hid (blk_grown HBSa.out hg' (hgb _ hne.1))
      have HBG' := Lib.hid (blk_grown (blk_below HBG.out hba) hg' (hgb _ hne.2.1))
      have G0' := Lib.hid (blk_grown (blk_below G0.out hba) hg' (hgb _ hne.2.2.1))
      have G1' := Lib.hid (blk_grown (blk_below G1.out hba) hg' (hgb _ hne.2.2.2.1))
      have G2' := Lib.hid (blk_grown (blk_below G2.out hba) hg' (hgb _ hne.2.2.2.2.1))
      have G3' := Lib.hid (blk_grown (blk_below G3.out hba) hg' (hgb _ hne.2.2.2.2.2.1))
      clear hst hma hm' hg' hl1 hC1 hgb hne hba
      go_upto_region 11 with (fail)
      clear e0 e1
      generalize wr.alloc (.cells #[.string c.f0, .slice A1 lc c1] 63) = wb at *
      have h10 : wb.cell? ⟨wr.heap.size, 0, none⟩ = some (.string c.f0) := blk_at HXc.out 0 rfl
      have b0 : wb.cell? ⟨bs, 0, none⟩ = some (.map (some ms)) := blk_at HBSa.out 0 rfl
      go_wp2_with (fail)
      clear hrun h10 b0
      go_roundw
      case rel => exact ⟨k + 1, by omega, by go_num, HMS', HMG', HBS', HBG', HW', G0', G1', G2', G3'⟩
      case measure => simp [intOf]; omega
    obtain rfl : m = k := by omega
    have HMP : Hid (MapS Try.prog 9 3 wr ms m (fS es)) := by
      rw [List.take_of_length_le (by rw [← Hm.out]; exact Nat.le_refl _)] at HMS
      exact HMS
    clear HMS hlt hk
    have a0 : wr.cell? ⟨g1, 0, none⟩ = some (.int .i64 en) := blk_at G1.out 0 rfl
    have qa : g0 < wr.heap.size := blk_lt G0.out
    have qb : g1 < wr.heap.size := blk_lt G1.out
    have HT : Hid ((wr.alloc (.cells #[.int .i64 en, .slice none 0 0, .slice none 0 0] 27)).heap[wr.heap.size]? = some (.cells #[.int .i64 en, .slice none 0 0, .slice none 0 0] 27 (0, 0))) := Lib.hid (blk_new wr _)
    have HWx : Hid (Below w.heap.size w (wr.alloc (.cells #[.int .i64 en, .slice none 0 0, .slice none 0 0] 27))) := HW.out.alloc HW.out.size _
    have HBx : Hid (Below wr.heap.size wr (wr.alloc (.cells #[.int .i64 en, .slice none 0 0, .slice none 0 0] 27))) := (Below.refl _ wr).alloc (Nat.le_refl _) _
    have HSx : Hid ((wr.alloc (.cells #[.int .i64 en, .slice none 0 0, .slice none 0 0] 27)).heap.size = wr.heap.size + 1) := Lib.hid (by simp)
    go_upto_region 14 with (fail)
    clear a0 qa qb
    obtain ⟨bj, hbj⟩ : ∃ bj, bj = wr.heap.size := ⟨_, rfl⟩
    rw [← hbj] at HT ⊢
    have HTF : Hid (mg < bj ∧ ms < bj ∧ bg < bj ∧ bs < bj ∧ g3 < bj) := Lib.hid ⟨by rw [hbj]; exact HMG.out.lt, by rw [hbj]; exact HMP.out.lt, by rw [hbj]; exact blk_lt HBG.out, by rw [hbj]; exact blk_lt HBS.out, by rw [hbj]; exact blk_lt G3.out⟩
    replace HSx : Hid ((wr.alloc (.cells #[.int .i64 en, .slice none 0 0, .slice none 0 0] 27)).heap.size = bj + 1) := Lib.hid (by rw [HSx.out, hbj])
    replace HMP : Hid (MapS Try.prog 9 3 _ ms m (fS es)) := HMP.out.move (HBx.out.block _ HMP.out.lt)
    replace HMG : Hid (MapS Try.prog 9 3 _ mg 0 (fG [])) := HMG.out.move (HBx.out.block _ HMG.out.lt)
    replace HBG := Lib.hid (blk_below HBG.out HBx.out)
    replace HBS := Lib.hid (blk_below HBS.out HBx.out)
    replace G0 := Lib.hid (blk_below G0.out HBx.out)
    replace G1 := Lib.hid (blk_below G1.out HBx.out)
    replace G2 := Lib.hid (blk_below G2.out HBx.out)
    replace G3 := Lib.hid (blk_below G3.out HBx.out)
    clear HBx HW hbj
    generalize wr.alloc (.cells #[.int .i64 en, .slice none 0 0, .slice none 0 0] 27) = wx at *
    have a2 : wx.cell? ⟨g0, 2, none⟩ = some (.slice DG p cp) := blk_at G0.out 2 rfl
    have b2 : wx.cell? ⟨g1, 2, none⟩ = some (.slice EG q cq) := blk_at G1.out 2 rfl
    go_wp2_with (go_at_call 43; refine (merged43 DG EG p q cp cq wx).mono ?_; rintro e w4 ⟨rfl, hx1, hx2, hx3, hbx, hsx⟩)
    have HX1 := Lib.hid hx1.out
    have HX2 := Lib.hid hx2.out
    have HX3 := Lib.hid hx3.out
    have HS4 : Hid (w4.heap.size = bj + 4) := Lib.hid (by have := HSx.out; omega)
    have HW4 : Hid (Below w.heap.size w w4) := HWx.out.trans (hbx.out.mono HWx.out.size)
    replace HMP : Hid (MapS Try.prog 9 3 w4 ms m (fS es)) := HMP.out.move (hbx.out.block _ HMP.out.lt)
    replace HMG : Hid (MapS Try.prog 9 3 w4 mg 0 (fG [])) := HMG.out.move (hbx.out.block _ HMG.out.lt)
    replace HBG := Lib.hid (blk_below HBG.out hbx.out)
    replace HBS := Lib.hid (blk_below HBS.out hbx.out)
    replace G0 := Lib.hid (blk_below G0.out hbx.out)
    replace G1 := Lib.hid (blk_below G1.out hbx.out)
    replace G2 := Lib.hid (blk_below G2.out hbx.out)
    replace G3 := Lib.hid (blk_below G3.out hbx.out)
    replace HT := Lib.hid (blk_below HT.out hbx.out)
    obtain ⟨qx, hqx⟩ : ∃ qx, qx = wx.heap.size := ⟨_, rfl⟩
    rw [← hqx] at HX1 HX2 HX3 ⊢
    have HQ : Hid (qx = bj + 1) := Lib.hid (by rw [hqx]; exact HSx.out)
    clear a2 b2 hx1 hx2 hx3 hbx hsx HSx HWx hqx
    have hc0 : Below w.heap.size w w4 := HW4.out
    refine range_wp (α := {x : PVS w // x.p ∈ mrgS dg eg}) (gf := 55) (lb := #[.pointer (some ⟨qx, 0, none⟩), .pointer (some ⟨qx + 1, 0, none⟩), .pointer (some ⟨qx + 2, 0, none⟩)]) (by rfl) (fun args w => enters_ Try.func55 (by kernel_rfl) rfl args w)
      (X := fun k => k = bj ∨ k = mg)
      (stops55 dg eg DG EG cp cq HDG.out HEG.out hc0 qx (qx + 1) (qx + 2) (fun k => k = bj ∨ k = mg) (by rw [← Hp.out]; exact HX1.out) (by rw [← Hq.out]; exact HX2.out) HX3.out (by have := HQ.out; have := HTF.out; refine ⟨?_, ?_, ?_⟩ <;> (rintro (h | h) <;> omega)) (by have := HTF.out; have := HE.out; have := HMB.out; rintro k (h | h) <;> omega)) (fun _ => rfl)
      (fun xs W => IJ1 w w4.heap.size g0 g1 g2 g3 bj bs bg ms mg en #[.int .i64 dn, .slice A n ca, .slice DG p cp] #[.int .i64 en, .slice B m cb, .slice EG q cq] es (plS xs) W) (fun c pre W => c = .ret ∧ IX1 w g2 g3 (mrgS dg eg) W)
      (fun xs W W' ht h => h.turn hc0.size (by have := HS4.out; have := HTF.out; omega) (by have := HS4.out; have := HTF.out; omega) ht) (fun c pre W W' ht h => ⟨h.1, h.2.turn hc0.size ht⟩)
      ⟨hc0, Nat.le_refl _, ⟨_, HT.out, Kd.R_nil _ _ _ _ _⟩, ⟨0, Nat.zero_le _, HMG.out⟩, by rw [← Hm.out]; exact HMP.out, HBS.out, HBG.out, G0.out, G1.out, G2.out, G3.out, rfl⟩ (fun _ _ h => h.sz) (fun x => boxS x.1) 84 13 ?assign ?body ?done ?stop
    case assign =>
      rintro l ⟨⟨⟨vl, vr, isL, isR⟩⟩, hx⟩ W K hK
      simp only [tmpsIn_one, encS, boxS, List.setIfInBounds_toArray, List.set_cons_zero, List.set_cons_succ] at hK ⊢
      clear hx
      refine regF_ (free_round l) (by kernel_rfl) (by rintro ⟨_, _, h⟩; exact h) ?_
      go_wp2_with (fail)
      exact hK
    case body =>
      rintro l pre ⟨⟨⟨vl, vr, isL, isR⟩⟩, hx⟩ b W hLb hI hbx hLW hlen
      simp only [tmpsIn_one, encS, boxS, List.setIfInBounds_toArray, List.set_cons_zero, List.set_cons_succ] at hbx ⊢
      have hmem := mrgS_mem _ dg eg (Nat.le_refl _) _ hx
      have hlim := mrgS_le _ dg eg (Nat.le_refl _)
      obtain ⟨ib, isz, ⟨vt, it, irow⟩, ⟨nk, hnk, img⟩, ims, ibs, ibg, i0, i1, i2, i3, inb⟩ := hI
      have hxs : (plS pre).length ≤ 128 := by unfold plS; rw [List.length_map]; have := Hp.out; have := Hq.out; omega
      obtain ⟨xs, hxse⟩ : ∃ xs, xs = plS pre := ⟨_, rfl⟩
      rw [← hxse] at hxs irow hnk img inb
      have hpm2 : plS (pre ++ [⟨⟨⟨vl, vr, isL, isR⟩⟩, hx⟩]) = xs ++ [⟨vl, vr, isL, isR⟩] := by rw [plS_snoc, ← hxse]
      have HPM := Lib.hid hpm2
      obtain ⟨ys, hys⟩ : ∃ ys, ys = joinGone es xs := ⟨_, rfl⟩
      have Hys := Lib.hid hys
      rw [← hys] at irow
      have Hlim : Hid (ys.length ≤ 1000) := Lib.hid (by rw [hys]; exact Nat.le_trans (List.length_filterMap_le _ _) (by omega))
      obtain ⟨Ag, cg, hvt⟩ := Kd.R_slice irow
      obtain ⟨ng, hng⟩ : ∃ ng, ng = ys.length := ⟨_, rfl⟩
      rw [← hng] at hvt
      subst hvt
      clear HT HMP HMG HBG HBS G0 G1 G2 G3 HX1 HX2 HX3
      have HT := Lib.hid it
      have HO := Lib.hid irow
      have HBV := Lib.hid ib
      have HSV := Lib.hid isz
      have HMg := Lib.hid img
      have HNK := Lib.hid hnk
      have HSm := Lib.hid ims
      have HIs := Lib.hid ibs
      have HIg := Lib.hid ibg
      have HI0 := Lib.hid i0
      have HI1 := Lib.hid i1
      have HI2 := Lib.hid i2
      have HI3 := Lib.hid i3
      have HNB := Lib.hid inb
      have HPx := Lib.hid hbx
      have HMEM := Lib.hid hmem
      have HX0 := Lib.hid hx
      have hnk8 : nk ≤ 128 := by omega
      have HLT : Hid (w.heap.size ≤ w4.heap.size ∧ w.heap.size ≤ bj ∧ ms < w4.heap.size ∧ ms ≠ bj ∧ bs ≠ bj ∧ bg ≠ bj ∧ g0 ≠ bj ∧ g1 ≠ bj ∧ g2 ≠ bj ∧ g3 ≠ bj ∧ mg < w4.heap.size ∧ mg ≠ bj ∧ ms ≠ mg ∧ bs ≠ mg ∧ bg ≠ mg ∧ g0 ≠ mg ∧ g1 ≠ mg ∧ g2 ≠ mg ∧ g3 ≠ mg ∧ w.heap.size ≤ mg) := Lib.hid (by have := HS4.out; have := HTF.out; have := HE.out; have := HMB.out; have := hc0.size; omega)
      clear it irow ib isz img hnk ims ibs ibg i0 i1 i2 i3 inb hbx hmem hlim hxs hys hng hpm2
      refine wpIn_block (wpIn_block (wpIn_seq ?_))
      cases isL with
      | true =>
        have p2 : W.cell? ⟨b, 2, none⟩ = some (.bool true) := blk_at HPx.out 2 rfl
        cases isR with
        | true =>
          have p3 : W.cell? ⟨b, 3, none⟩ = some (.bool true) := blk_at HPx.out 3 rfl
          refine regF_ (free_round l) (by kernel_rfl) (by rintro ⟨_, _, h⟩; exact h) ?_
          go_wp2_with (fail)
          clear p2 p3
          refine wpIn_cond_true rfl (wpIn_seq ?_)
          have x0 : W.cell? ⟨g2, 0, none⟩ = some (.int .i64 0) := blk_at HI2.out 0 rfl
          have x1 : W.cell? ⟨g2, 1, none⟩ = some (.slice none 0 0) := blk_at HI2.out 1 rfl
          have x2 : W.cell? ⟨g2, 2, none⟩ = some (.slice none 0 0) := blk_at HI2.out 2 rfl
          have y0 : W.frozen? ⟨g2, 0, none⟩ = false := blk_frozen HI2.out 0
          have y1 : W.frozen? ⟨g2, 1, none⟩ = false := blk_frozen HI2.out 1
          have y2 : W.frozen? ⟨g2, 2, none⟩ = false := blk_frozen HI2.out 2
          have u0 : W.cell? ⟨g3, 0, none⟩ = some (.int .i64 0) := blk_at HI3.out 0 rfl
          have v0 : W.frozen? ⟨g3, 0, none⟩ = false := blk_frozen HI3.out 0
          refine regF_ (free_round l) (by kernel_rfl) (by rintro ⟨_, _, h⟩; exact h) ?_
          go_wp2_with (fail)
          refine wpIn_ret ?_
          have hge : w.heap.size ≤ g2 ∧ w.heap.size ≤ g3 := by have := HE.out; omega
          refine ⟨((((KeepsOthers.setCell _ _ _).trans (KeepsOthers.setCell _ _ _)).trans (KeepsOthers.setCell _ _ _)).trans (KeepsOthers.setCell _ _ _)).from _, rfl, (((HBV.out.setCell hge.1 _).setCell hge.1 _).setCell hge.1 _).setCell hge.2 _, blk_far (blk_put (blk_put (blk_put HI2.out 0 _ rfl) 1 _ rfl) 2 _ rfl) l23 _, blk_put (blk_far (blk_far (blk_far HI3.out l32 _) l32 _) l32 _) 0 _ rfl, ?_⟩
          exact List.any_eq_true.2 ⟨_, HX0.out, by rfl⟩
        | false =>
          have p3 : W.cell? ⟨b, 3, none⟩ = some (.bool false) := blk_at HPx.out 3 rfl
          have HNB2 : Hid (anyBoth (xs ++ [⟨vl, vr, true, false⟩]) = false) := Lib.hid (by unfold anyBoth at HNB ⊢; rw [List.any_append, HNB.out]; rfl)
          refine regF_ (free_round l) (by kernel_rfl) (by rintro ⟨_, _, h⟩; exact h) ?_
          go_wp2_with (fail)
          clear p2
          refine wpIn_cond_false rfl (wpIn_seq ?_)
          refine regF_ (free_round l) (by kernel_rfl) (by rintro ⟨_, _, h⟩; exact h) ?_
          go_wp2_with (fail)
          clear p3
          refine wpIn_cond_false rfl (wpIn_seq ?_)
          have h12 := HOD.out.2.2 vl (HMEM.out.1 (by first | rfl | trivial))
          have hlook := HSm.out.look (t := 65) Try.underlying65 Try.underlying9 Try.underlying3 (Try.zeroValue3 W) vl (small_max h12)
          clear h12
          have p0 : W.cell? ⟨b, 0, none⟩ = some (.string vl) := blk_at HPx.out 0 rfl
          have q0 : W.cell? ⟨bs, 0, none⟩ = some (.map (some ms)) := blk_at HIs.out 0 rfl
          by_cases hfs : fS es vl = 0
          · rw [hfs] at hlook
            have HK : Hid (joinKeepG es ⟨vl, vr, true, false⟩ = some vl) := Lib.hid (by unfold joinKeepG; simp [hfs])
            clear hfs
            refine regF_ (free_round l) (by kernel_rfl) (by rintro ⟨_, _, h⟩; exact h) ?_
            go_wp2_with (fail)
            clear hlook q0
            refine wpIn_cond_true rfl ?_
            have t2 : W.cell? ⟨bj, 2, none⟩ = some (.slice Ag ng cg) := blk_at HT.out 2 rfl
            refine regF_ (free_round l) (by kernel_rfl) (by rintro ⟨_, _, h⟩; exact h) ?_
            go_wp2_with (at_builtin; refine Kd.R_append Kd.string (w0 := W) w4.heap.size rfl (.tmp 77) (.tmp 80) 25 9 (.string ⟨#[]⟩) 16 rfl Try.underlying25 info9 rfl (by decide) (by decide) (.slice Ag ng cg) ys vl _ (fun _ => True) (fun _ => False) rfl rfl ?hp (fun _ h => h.elim) (fun _ _ => trivial) HO.out (Below.refl _ _) ?hS ?hl ?_
                         case hp => exact rfl
                         case hS => exact HSV.out
                         case hl => have := Hlim.out; omega
                         intro v1 w5 hO5 hB5 hg5 hat5
                         have HT5 := Lib.hid (blk_grown HT.out hg5 (Kd.R_ne HO.out HT.out (by decide)))
                         have HF5 : Hid (Oth w4.heap.size bj 9 W w5) := Lib.hid (Oth.grown hg5 (fun k hk => ⟨Kd.R_base HO.out k hk, Kd.R_typed HO.out k hk⟩))
                         have HO5 := Lib.hid hO5
                         obtain ⟨A5, c5, hv5⟩ := Kd.R_slice hO5
                         obtain ⟨m5, hm5⟩ : ∃ m5, m5 = (ys ++ [vl]).length := ⟨_, rfl⟩
                         rw [← hm5] at hv5
                         subst hv5
                         have y2 : w5.cell? ⟨bj, 2, none⟩ = some (.slice Ag ng cg) := blk_at HT5.out 2 rfl
                         have y3 : w5.frozen? ⟨bj, 2, none⟩ = false := blk_frozen HT5.out 2
                         clear hO5 hB5 hg5 hat5 hm5)
            have HT9 : Hid ((w5.setCell ⟨bj, 2, none⟩ (.slice A5 m5 c5)).heap[bj]? = some (.cells #[.int .i64 en, .slice none 0 0, .slice A5 m5 c5] 27 (0, 0))) := blk_put HT5.out 2 _ rfl
            have HO9 := Lib.hid (Kd.R_set HO5.out HT5.out (by decide) 2 (.slice A5 m5 c5))
            have HF9 : Hid (Oth w4.heap.size bj 9 W (w5.setCell ⟨bj, 2, none⟩ (.slice A5 m5 c5))) := HF5.out.trans (Oth.set 2 _)
            refine ⟨HF9.out.rnd (.inl rfl) HSV.out HT.out, Eq.mpr (congrArg (fun z => IJ1 w w4.heap.size g0 g1 g2 g3 bj bs bg ms mg en #[.int .i64 dn, .slice A n ca, .slice DG p cp] #[.int .i64 en, .slice B m cb, .slice EG q cq] es z (w5.setCell ⟨bj, 2, none⟩ (.slice A5 m5 c5))) HPM.out) ⟨HF9.out.below HBV.out HLT.out.1 HLT.out.2.1, Nat.le_trans HSV.out HF9.out.size, ⟨_, HT9.out, ?_⟩, ⟨nk, by have := HNK.out; rw [List.length_append]; simp; omega, by rw [show rightsS (xs ++ [⟨vl, vr, true, false⟩]) = rightsS xs from by unfold rightsS; rw [filterMap_snoc]; rfl]; exact HF9.out.map HMg.out HLT.out.2.2.2.2.2.2.2.2.2.2.1 HLT.out.2.2.2.2.2.2.2.2.2.2.2.1⟩, HF9.out.map HSm.out HLT.out.2.2.1 HLT.out.2.2.2.1, HF9.out.blk HIs.out HLT.out.2.2.2.2.1 (by decide), HF9.out.blk HIg.out HLT.out.2.2.2.2.2.1 (by decide), HF9.out.blk HI0.out HLT.out.2.2.2.2.2.2.1 (by decide), HF9.out.blk HI1.out HLT.out.2.2.2.2.2.2.2.1 (by decide), HF9.out.blk HI2.out HLT.out.2.2.2.2.2.2.2.2.1 (by decide), HF9.out.blk HI3.out HLT.out.2.2.2.2.2.2.2.2.2.1 (by decide), HNB2.out⟩⟩
            unfold joinGone
            rw [filterMap_snoc, HK.out]
            have := HO9.out
            rw [Hys.out] at this
            exact this
          · have HK : Hid (joinKeepG es ⟨vl, vr, true, false⟩ = none) := Lib.hid (by unfold joinKeepG; simp [hfs])
            generalize hzf : fS es vl = zf at hlook hfs
            clear hzf
            have k1 : (zf == 0) = false := beq_false_of_ne hfs
            clear hfs
            refine regF_ (free_round l) (by kernel_rfl) (by rintro ⟨_, _, h⟩; exact h) ?_
            go_wp2_with (fail)
            clear hlook p0 q0 k1
            refine wpIn_cond_false rfl (wpIn_skip ?_)
            refine ⟨Rnd.refl _, Eq.mpr (congrArg (fun z => IJ1 w w4.heap.size g0 g1 g2 g3 bj bs bg ms mg en #[.int .i64 dn, .slice A n ca, .slice DG p cp] #[.int .i64 en, .slice B m cb, .slice EG q cq] es z W) HPM.out) ⟨HBV.out, HSV.out, ⟨_, HT.out, by unfold joinGone; rw [filterMap_snoc, HK.out]; have := HO.out; rw [Hys.out] at this; exact this⟩, ⟨nk, by have := HNK.out; rw [List.length_append]; simp; omega, by rw [show rightsS (xs ++ [⟨vl, vr, true, false⟩]) = rightsS xs from by unfold rightsS; rw [filterMap_snoc]; rfl]; exact HMg.out⟩, HSm.out, HIs.out, HIg.out, HI0.out, HI1.out, HI2.out, HI3.out, HNB2.out⟩⟩
      | false =>
        have hisR : isR = true := by
          cases isR with
          | true => rfl
          | false => have := HMEM.out.2.2 (by first | rfl | trivial); first | cases this | exact this.elim | (simp at this)
        subst hisR
        have p2 : W.cell? ⟨b, 2, none⟩ = some (.bool false) := blk_at HPx.out 2 rfl
        have p3 : W.cell? ⟨b, 3, none⟩ = some (.bool true) := blk_at HPx.out 3 rfl
        have HNB2 : Hid (anyBoth (xs ++ [⟨vl, vr, false, true⟩]) = false) := Lib.hid (by unfold anyBoth at HNB ⊢; rw [List.any_append, HNB.out]; rfl)
        refine regF_ (free_round l) (by kernel_rfl) (by rintro ⟨_, _, h⟩; exact h) ?_
        go_wp2_with (fail)
        clear p2
        refine wpIn_cond_false rfl (wpIn_seq ?_)
        refine regF_ (free_round l) (by kernel_rfl) (by rintro ⟨_, _, h⟩; exact h) ?_
        go_wp2_with (fail)
        clear p3
        refine wpIn_cond_true rfl (wpIn_seq ?_)
        have h12 := HOE.out.2.2 vr (HMEM.out.2.1 (by first | rfl | trivial))
        obtain ⟨w', hrun, hm', hg'⟩ := HMg.out.set (t := 65) Try.underlying65 Try.underlying9 Try.underlying3 (Nat.lt_of_le_of_lt hnk8 (by decide)) vr 1 (small_max h12) wf1
        rw [fG_snoc] at hm'
        have HM' := Lib.hid hm'
        have hgb : ∀ g, g ≠ mg → some g ≠ some mg := fun g h e => h (by injection e)
        have HTp := Lib.hid (blk_grown HT.out hg' (hgb _ (fun e => HLT.out.2.2.2.2.2.2.2.2.2.2.2.1 e.symm)))
        have HOp : Hid (Kd.R Kd.string 9 w' w4.heap.size (fun _ => True) (.slice Ag ng cg) ys) := Lib.hid (Kd.R_mono (Kd.R_grown (Kd.R_bound HO.out) hg' (fun k hk e => by injection e with e; have := hk.2.1; have := HLT.out.2.2.2.2.2.2.2.2.2.2.1; omega)) (fun _ _ => trivial))
        have HBp : Hid (Below w.heap.size w w') := Lib.hid (below_grown HBV.out hg' HLT.out.2.2.2.2.2.2.2.2.2.2.2.2.2.2.2.2.2.2.2)
        have HSmp : Hid (MapS Try.prog 9 3 w' ms es.length (fS es)) := Lib.hid (HSm.out.move (hg'.block _ HSm.out.lt (hgb _ HLT.out.2.2.2.2.2.2.2.2.2.2.2.2.1)))
        have HIsp := Lib.hid (blk_grown HIs.out hg' (hgb _ HLT.out.2.2.2.2.2.2.2.2.2.2.2.2.2.1))
        have HIgp := Lib.hid (blk_grown HIg.out hg' (hgb _ HLT.out.2.2.2.2.2.2.2.2.2.2.2.2.2.2.1))
        have HI0p := Lib.hid (blk_grown HI0.out hg' (hgb _ HLT.out.2.2.2.2.2.2.2.2.2.2.2.2.2.2.2.1))
        have HI1p := Lib.hid (blk_grown HI1.out hg' (hgb _ HLT.out.2.2.2.2.2.2.2.2.2.2.2.2.2.2.2.2.1))
        have HI2p := Lib.hid (blk_grown HI2.out hg' (hgb _ HLT.out.2.2.2.2.2.2.2.2.2.2.2.2.2.2.2.2.2.1))
        have HI3p := Lib.hid (blk_grown HI3.out hg' (hgb _ HLT.out.2.2.2.2.2.2.2.2.2.2.2.2.2.2.2.2.2.2.1))
        have HPxp := Lib.hid (blk_grown HPx.out hg' (hgb _ (by have := HLT.out.2.2.2.2.2.2.2.2.2.2.1; omega)))
        have HRp : Hid (Rnd w4.heap.size (fun k => k = bj ∨ k = mg) W w') := Lib.hid (Rnd.map hg' (.inr rfl) HLT.out.2.2.2.2.2.2.2.2.2.2.1 HSV.out)
        have HSVp : Hid (w4.heap.size ≤ w'.heap.size) := Lib.hid (Nat.le_trans HSV.out hg'.size)
        have p1 : W.cell? ⟨b, 1, none⟩ = some (.string vr) := blk_at HPx.out 1 rfl
        have q0 : W.cell? ⟨bg, 0, none⟩ = some (.map (some mg)) := blk_at HIg.out 0 rfl
        clear h12 hm' hg' hgb
        refine regF_ (free_round l) (by kernel_rfl) (by rintro ⟨_, _, h⟩; exact h) ?_
        go_wp2_with (fail)
        clear hrun p1 q0 HT HO HBV HSm HIs HIg HI0 HI1 HI2 HI3 HPx HSV
        have HK : Hid (joinKeepG es ⟨vl, vr, false, true⟩ = some vr) := Lib.hid (by unfold joinKeepG; simp)
        have HT := HTp
        have HO := HOp
        have HBV := HBp
        have HSm := HSmp
        have HIs := HIsp
        have HIg := HIgp
        have HI0 := HI0p
        have HI1 := HI1p
        have HI2 := HI2p
        have HI3 := HI3p
        have HSV := HSVp
        have t2 : w'.cell? ⟨bj, 2, none⟩ = some (.slice Ag ng cg) := blk_at HT.out 2 rfl
        have p1 : w'.cell? ⟨b, 1, none⟩ = some (.string vr) := blk_at HPxp.out 1 rfl
        clear HTp HOp HBp HSmp HIsp HIgp HI0p HI1p HI2p HI3p HSVp
        refine regF_ (free_round l) (by kernel_rfl) (by rintro ⟨_, _, h⟩; exact h) ?_
        go_wp2_with (at_builtin; refine Kd.R_append Kd.string (w0 := w') w4.heap.size rfl (.tmp 64) (.tmp 67) 25 9 (.string ⟨#[]⟩) 16 rfl Try.underlying25 info9 rfl (by decide) (by decide) (.slice Ag ng cg) ys vr _ (fun _ => True) (fun _ => False) rfl rfl ?hp (fun _ h => h.elim) (fun _ _ => trivial) HO.out (Below.refl _ _) ?hS ?hl ?_
                     case hp => exact rfl
                     case hS => exact HSV.out
                     case hl => have := Hlim.out; omega
                     intro v1 w5 hO5 hB5 hg5 hat5
                     have HT5 := Lib.hid (blk_grown HT.out hg5 (Kd.R_ne HO.out HT.out (by decide)))
                     have HF5 : Hid (Oth w4.heap.size bj 9 w' w5) := Lib.hid (Oth.grown hg5 (fun k hk => ⟨Kd.R_base HO.out k hk, Kd.R_typed HO.out k hk⟩))
                     have HO5 := Lib.hid hO5
                     obtain ⟨A5, c5, hv5⟩ := Kd.R_slice hO5
                     obtain ⟨m5, hm5⟩ : ∃ m5, m5 = (ys ++ [vr]).length := ⟨_, rfl⟩
                     rw [← hm5] at hv5
                     subst hv5
                     have y2 : w5.cell? ⟨bj, 2, none⟩ = some (.slice Ag ng cg) := blk_at HT5.out 2 rfl
                     have y3 : w5.frozen? ⟨bj, 2, none⟩ = false := blk_frozen HT5.out 2
                     clear hO5 hB5 hg5 hat5 hm5)
        have HT9 : Hid ((w5.setCell ⟨bj, 2, none⟩ (.slice A5 m5 c5)).heap[bj]? = some (.cells #[.int .i64 en, .slice none 0 0, .slice A5 m5 c5] 27 (0, 0))) := blk_put HT5.out 2 _ rfl
        have HO9 := Lib.hid (Kd.R_set HO5.out HT5.out (by decide) 2 (.slice A5 m5 c5))
        have HF9 : Hid (Oth w4.heap.size bj 9 w' (w5.setCell ⟨bj, 2, none⟩ (.slice A5 m5 c5))) := HF5.out.trans (Oth.set 2 _)
        refine ⟨HRp.out.trans (HF9.out.rnd (.inl rfl) HSV.out HT.out), Eq.mpr (congrArg (fun z => IJ1 w w4.heap.size g0 g1 g2 g3 bj bs bg ms mg en #[.int .i64 dn, .slice A n ca, .slice DG p cp] #[.int .i64 en, .slice B m cb, .slice EG q cq] es z (w5.setCell ⟨bj, 2, none⟩ (.slice A5 m5 c5))) HPM.out) ⟨HF9.out.below HBV.out HLT.out.1 HLT.out.2.1, Nat.le_trans HSV.out HF9.out.size, ⟨_, HT9.out, ?_⟩, ⟨nk + 1, by have := HNK.out; rw [List.length_append]; simp; omega, by rw [show rightsS (xs ++ [⟨vl, vr, false, true⟩]) = rightsS xs ++ [vr] from by unfold rightsS; rw [filterMap_snoc]; rfl]; exact HF9.out.map HM'.out HLT.out.2.2.2.2.2.2.2.2.2.2.1 HLT.out.2.2.2.2.2.2.2.2.2.2.2.1⟩, HF9.out.map HSm.out HLT.out.2.2.1 HLT.out.2.2.2.1, HF9.out.blk HIs.out HLT.out.2.2.2.2.1 (by decide), HF9.out.blk HIg.out HLT.out.2.2.2.2.2.1 (by decide), HF9.out.blk HI0.out HLT.out.2.2.2.2.2.2.1 (by decide), HF9.out.blk HI1.out HLT.out.2.2.2.2.2.2.2.1 (by decide), HF9.out.blk HI2.out HLT.out.2.2.2.2.2.2.2.2.1 (by decide), HF9.out.blk HI3.out HLT.out.2.2.2.2.2.2.2.2.2.1 (by decide), HNB2.out⟩⟩
        unfold joinGone
        rw [filterMap_snoc, HK.out]
        have := HO9.out
        rw [Hys.out] at this
        exact this
    case done =>
      intro D xs W hD hS hI hK
      have hxs : plS xs = mrgS dg eg := hS
      rw [hxs] at hI
      obtain ⟨ib, isz, ⟨vt, it, irow⟩, ⟨kk, hnk, img⟩, ims, ibs, ibg, i0, i1, i2, i3, inb⟩ := hI
      have hlim := mrgS_le _ dg eg (Nat.le_refl _)
      obtain ⟨ff, hff⟩ : ∃ f, f = fG (rightsS (mrgS dg eg)) := ⟨_, rfl⟩
      obtain ⟨GG, hGG⟩ : ∃ l, l = joinGone es (mrgS dg eg) := ⟨_, rfl⟩
      rw [← hff] at img
      rw [← hGG] at irow
      have hGl : GG.length ≤ 128 := by rw [hGG]; have := List.length_filterMap_le (joinKeepG es) (mrgS dg eg); have := Hp.out; have := Hq.out; unfold joinGone; omega
      have HR0 : Hid (joinP dn ds dg en es eg = if 64 < (joinSetF ff (mrgC ds es)).length ∨ 64 < GG.length then (0, [], [], 111) else (en, joinSetF ff (mrgC ds es), GG, 0)) := Lib.hid (by
        unfold joinP
        rw [if_neg (by rw [HZ1.out]; simp), if_neg (by rw [HZ2.out]; simp), if_neg (by rw [inb]; simp), hff, hGG]
        rfl)
      obtain ⟨Ag, cg, hvt⟩ := Kd.R_slice irow
      obtain ⟨ng, hng⟩ : ∃ ng, ng = GG.length := ⟨_, rfl⟩
      rw [← hng] at hvt
      subst hvt
      have Hng := Lib.hid hng
      clear HT HMP HMG HBG HBS G0 G1 G2 G3 HX1 HX2 HX3
      have a1 : W.cell? ⟨g0, 1, none⟩ = some (.slice A n ca) := blk_at i0 1 rfl
      have b1 : W.cell? ⟨g1, 1, none⟩ = some (.slice B m cb) := blk_at i1 1 rfl
      have HT := Lib.hid it
      have HGr := Lib.hid irow
      have HBV := Lib.hid ib
      have HSV := Lib.hid isz
      have HMg := Lib.hid img
      have HIg := Lib.hid ibg
      have HI2 := Lib.hid i2
      have HI3 := Lib.hid i3
      have HK1 := Lib.hid hK
      have hDl : D < W.heap.size := (Array.getElem?_eq_some_iff.1 hK).1
      clear it irow ib isz img ibs ibg i0 i1 i2 i3 inb hK ims hnk hff hGG hng hlim hxs hS
      go_wp2_with (go_at_call 35; refine (merged35 A B n m ca cb W).mono ?_; rintro e w6 ⟨rfl, hx1, hx2, hx3, hbx, hsx⟩)
      have HX1 := Lib.hid hx1.out
      have HX2 := Lib.hid hx2.out
      have HX3 := Lib.hid hx3.out
      have HW6 : Hid (Below w.heap.size w w6) := HBV.out.trans (hbx.out.mono HBV.out.size)
      replace HMg : Hid (MapS Try.prog 9 3 w6 mg kk ff) := HMg.out.move (hbx.out.block _ HMg.out.lt)
      replace HIg := Lib.hid (blk_below HIg.out hbx.out)
      replace HI2 := Lib.hid (blk_below HI2.out hbx.out)
      replace HI3 := Lib.hid (blk_below HI3.out hbx.out)
      replace HT := Lib.hid (blk_below HT.out hbx.out)
      replace HGr := Lib.hid (Kd.R_below HGr.out hbx.out)
      replace HK1 : Hid (w6.heap[D]? = some (.deferred (some []))) := Lib.hid ((hbx.out.block _ hDl).trans HK1.out)
      obtain ⟨qy, hqy⟩ : ∃ qy, qy = W.heap.size := ⟨_, rfl⟩
      rw [← hqy] at HX1 HX2 HX3 ⊢
      have HL6 : Hid (w4.heap.size ≤ qy ∧ w6.heap.size = qy + 3 ∧ D < qy) := Lib.hid ⟨by rw [hqy]; exact HSV.out, by rw [hqy]; exact hsx, by rw [hqy]; exact hDl⟩
      clear a1 b1 hx1 hx2 hx3 hbx hsx hqy hDl HSV HBV
      have hc6 : Below w.heap.size w w6 := HW6.out
      have HL2 : Hid (w.heap.size ≤ w6.heap.size ∧ w.heap.size ≤ bj ∧ mg < w6.heap.size ∧ mg ≠ bj ∧ bg ≠ bj ∧ g2 ≠ bj ∧ g3 ≠ bj ∧ D ≠ bj ∧ D < w6.heap.size) := Lib.hid (by have := HS4.out; have := HTF.out; have := HE.out; have := HMB.out; have := hc6.size; have := HL6.out; omega)
      refine range_wp (α := {x : PVC w // x.p ∈ mrgC ds es}) (gf := 51) (lb := #[.pointer (some ⟨qy, 0, none⟩), .pointer (some ⟨qy + 1, 0, none⟩), .pointer (some ⟨qy + 2, 0, none⟩)]) (by rfl) (fun args w => enters_ Try.func51 (by kernel_rfl) rfl args w)
        (X := fun k => k = bj)
        (stops51 ds es A B ca cb HA.out HB.out hc6 qy (qy + 1) (qy + 2) (fun k => k = bj) (by rw [← Hn.out]; exact HX1.out) (by rw [← Hm.out]; exact HX2.out) HX3.out (by have := HL6.out; have := HS4.out; refine ⟨?_, ?_, ?_⟩ <;> (intro h; omega)) (by have := HL2.out; intro k h; omega)) (fun _ => rfl)
        (fun xs W => IJ2 w w6.heap.size w4.heap.size D g2 g3 bj bg mg en (.slice Ag ng cg) GG ff kk (plC xs) W) (fun _ _ _ => False)
        (fun xs W W' ht h => h.turn hc6.size HL2.out.2.2.1 HL2.out.2.2.2.2.2.2.2.2 ht) (fun _ _ _ _ _ h => h.elim)
        ⟨hc6, Nat.le_refl _, ⟨_, HT.out, Kd.R_nil _ _ _ _ _⟩, HGr.out, HMg.out, HIg.out, HI2.out, HI3.out, HK1.out⟩ (fun _ _ h => h.sz) (fun x => boxC x.1) 71 14 ?assign2 ?body2 ?done2 ?stop2
      case assign2 =>
        rintro l ⟨⟨⟨vl, vr, isL, isR⟩, la, lc, ra, rc, hl, cl, hr, cr⟩, hx⟩ W K hK
        simp only [tmpsIn_one, encC, boxC, List.setIfInBounds_toArray, List.set_cons_zero, List.set_cons_succ] at hK ⊢
        clear hl cl hr cr hx
        generalize vl.f1.length = nl at *
        generalize vr.f1.length = nr at *
        refine regF_ (free_round l) (by kernel_rfl) (by rintro ⟨_, _, h⟩; exact h) ?_
        go_wp2_with (fail)
        exact hK
      case body2 =>
        rintro l pre ⟨⟨⟨vl, vr, isL, isR⟩, la, lc, ra, rc, hl, cl, hr, cr⟩, hx⟩ b W hLb hI hbx hLW hlen
        simp only [tmpsIn_one, encC, boxC, List.setIfInBounds_toArray, List.set_cons_zero, List.set_cons_succ] at hbx ⊢
        have hmem := mrgC_mem _ ds es (Nat.le_refl _) _ hx
        have hlim := mrgC_le _ ds es (Nat.le_refl _)
        obtain ⟨ib, isz, ⟨vt, it, irow⟩, igr, img, ibg, i2, i3, id1⟩ := hI
        have hxs : (plC pre).length ≤ 128 := by unfold plC; rw [List.length_map]; have := Hn.out; have := Hm.out; omega
        obtain ⟨xs, hxse⟩ : ∃ xs, xs = plC pre := ⟨_, rfl⟩
        rw [← hxse] at hxs irow
        have hpm2 : plC (pre ++ [⟨⟨⟨vl, vr, isL, isR⟩, la, lc, ra, rc, hl, cl, hr, cr⟩, hx⟩]) = xs ++ [⟨vl, vr, isL, isR⟩] := by rw [plC_snoc, ← hxse]
        have HPM := Lib.hid hpm2
        obtain ⟨ys, hys⟩ : ∃ ys, ys = joinSetF ff xs := ⟨_, rfl⟩
        have Hys := Lib.hid hys
        rw [← hys] at irow
        have Hlim : Hid (ys.length ≤ 1000) := Lib.hid (by rw [hys]; exact Nat.le_trans (List.length_filterMap_le _ _) (by omega))
        obtain ⟨At, ct, hvt⟩ := Kd.R_slice irow
        obtain ⟨nt, hnt⟩ : ∃ nt, nt = ys.length := ⟨_, rfl⟩
        rw [← hnt] at hvt
        subst hvt
        clear HT HGr HMg HIg HI2 HI3 HK1 HX1 HX2 HX3
        have HT := Lib.hid it
        have HO := Lib.hid irow
        have HGr := Lib.hid igr
        have HBV := Lib.hid ib
        have HBW := Lib.hid ib
        have HSV := Lib.hid isz
        have HLW := Lib.hid isz
        have HMg := Lib.hid img
        have HIg := Lib.hid ibg
        have HI2 := Lib.hid i2
        have HI3 := Lib.hid i3
        have HD1 := Lib.hid id1
        have HPx := Lib.hid hbx
        have HMEM := Lib.hid hmem
        obtain ⟨nl, hnl⟩ : ∃ nl, nl = vl.f1.length := ⟨_, rfl⟩
        obtain ⟨nr, hnr⟩ : ∃ nr, nr = vr.f1.length := ⟨_, rfl⟩
        have Hnl := Lib.hid hnl
        have Hnr := Lib.hid hnr
        have CL := Lib.hid (And.intro cl hl)
        have CR := Lib.hid (And.intro cr hr)
        rw [← hnl, ← hnr] at HPx ⊢
        clear it irow igr ib isz img ibg i2 i3 id1 hbx hmem hlim hxs hys hnt hnl hnr hpm2
        refine wpIn_block (wpIn_block (wpIn_seq ?_))
        cases isR with
        | true =>
          have p5 : W.cell? ⟨b, 5, none⟩ = some (.bool true) := blk_at HPx.out 5 rfl
          refine regF_ (free_round l) (by kernel_rfl) (by rintro ⟨_, _, h⟩; exact h) ?_
          go_wp2_with (fail)
          clear p5
          refine wpIn_cond_true rfl ?_
          have HOC := Lib.hid (chkCells_ok es none (chkS_ok HOE.out.1).2.1 vr (HMEM.out.2.1 (by first | rfl | trivial)))
          have HCP : Hid (∀ V, Below w.heap.size w V → Calls Try.prog 37 #[.agg #[.string vr.f0, .slice ra nr rc]] V fun e w' => Copied vr V e w') := Lib.hid (fun V hV => by rw [Hnr.out]; exact copied37 vr ra rc V (Kd.C_below CR.out.1 hV) CR.out.2 HOC.out)
          have Hnc := Hnr
          refine startIn_ (m := 9) (S := (fun w' => w'.cell? ⟨bj, 1, none⟩ = some (.slice At nt ct) ∧ w'.cell? ⟨b, 2, none⟩ = some (.string vr.f0) ∧ w'.cell? ⟨b, 3, none⟩ = some (.slice ra nr rc))) (ds := [8]) (free_round _) (by kernel_rfl) (by rintro ⟨_, _, h⟩; exact h) #[false, false, false, false, false, false, false, false, false] (by kernel_rfl) rfl rfl ⟨blk_at HT.out 1 rfl, blk_at HPx.out 2 rfl, blk_at HPx.out 3 rfl⟩ (fun hHeld => ?_)
          have HTd : Hid (W.drew.heap[bj]? = some (.cells #[.int .i64 en, .slice At nt ct, .slice Ag ng cg] 27 (0, 0))) := HT.out
          have HPd : Hid (W.drew.heap[b]? = some (.cells #[.string vl.f0, .slice la nl lc, .string vr.f0, .slice ra nr rc, .bool isL, .bool true] 71 (0, 0))) := HPx.out
          have HOd := Lib.hid (Kd.R_drew HO.out)
          have HBd : Hid (Below w.heap.size w W.drew) := HBW.out.drew
          have HLd : Hid (w6.heap.size ≤ W.drew.heap.size) := HLW.out
          have HFd : Hid (Oth w6.heap.size bj 63 W W.drew) := Oth.of_below (Below.refl _ _).drew
          generalize W.drew = Wd at hHeld HTd HPd HOd HBd HLd HFd ⊢
          refine pure_ (i := 0) (N := some 92) (v := ?_) (a' := ?_) #[true, false, false, false, false, false, false, false, false] rfl rfl (by kernel_rfl) (fun _ _ _ h => h) (Or.inl ⟨by rfl, ?_⟩) ?_ ?_
          rotate_left
          · intro w'
            go_simp
            with_reducible rfl
          rotate_left
          · go_simp
            rfl
          refine take_ (i := 1) (N := some 93) (v := ?_) (a' := ?_) #[true, true, false, false, false, false, false, false, false] rfl rfl (by kernel_rfl) (fun _ _ _ h => h) (Or.inl ⟨by rfl, ?_⟩) hHeld ?_ ?_
          rotate_left
          · rintro w' ⟨s0, s1, s2⟩
            go_simp
            with_reducible rfl
          rotate_left
          · go_simp
            rfl
          refine pure_ (i := 2) (N := some 94) (v := ?_) (a' := ?_) #[true, true, true, false, false, false, false, false, false] rfl rfl (by kernel_rfl) (fun _ _ _ h => h) (Or.inl ⟨by rfl, ?_⟩) ?_ ?_
          rotate_left
          · intro w'
            go_simp
            with_reducible rfl
          rotate_left
          · go_simp
            rfl
          refine take_ (i := 3) (N := some 95) (v := ?_) (a' := ?_) #[true, true, true, true, false, false, false, false, false] rfl rfl (by kernel_rfl) (fun _ _ _ h => h) (Or.inl ⟨by rfl, ?_⟩) hHeld ?_ ?_
          rotate_left
          · rintro w' ⟨s0, s1, s2⟩
            go_simp
            with_reducible rfl
          rotate_left
          · go_simp
            rfl
          refine one_ (i := 4) (N := some 96) #[true, true, true, true, true, false, false, false, false] rfl rfl (by kernel_rfl) (by decide) (fun K hK => ?_)
          refine goes_ Try.func37 (by kernel_rfl) rfl #[.agg #[.string vr.f0, .slice ra nr rc]] (by rfl) rfl rfl (by simp only [List.map_toArray, List.map_cons, List.map_nil]; rfl) ?_
          refine (HCP.out Wd HBd.out).mono ?_
          rintro e W1 ⟨v, rfl, hv, hb⟩
          obtain ⟨Av, cv, hvv⟩ := Kd.R_slice hv.out
          rw [← Hnc.out] at hvv
          subst hvv
          refine ⟨_, rfl, ?_⟩
          have HT1 := Lib.hid (blk_below HTd.out hb.out)
          have HP1 := Lib.hid (blk_below HPd.out hb.out)
          have HO1 := Lib.hid (Kd.R_below HOd.out hb.out)
          have HF1 : Hid (Oth w6.heap.size bj 63 W W1) := HFd.out.trans (Oth.of_below hb.out)
          have HV1 := Lib.hid hv.out
          have HL1 := Lib.hid hb.out.size
          refine hK.out _ _ ⟨blk_at HT1.out 1 rfl, blk_at HP1.out 2 rfl, blk_at HP1.out 3 rfl⟩ (fun hHeld => ?_)
          clear hK K hb hv HTd HPd HFd HBd
          refine norm_ (a' := ?_) ?_ ?_
          rotate_left
          · show Act.put _ (some 96) _ = _
            go_simp
            rfl
          refine one_ (i := 5) (N := some 97) #[true, true, true, true, true, true, false, false, false] rfl rfl (by kernel_rfl) (by decide) (fun K hK => ?_)
          refine value_ (w1 := (W1.alloc (.cells [.string vr.f0, .slice Av nr cv].toArray 63))) (v := .slice (some ⟨W1.heap.size, 0, none⟩) 1 1) (by rfl) rfl (by go_simp) ?_
          refine hK.out _ _ ⟨pw_cell_below ((Below.refl _ _).alloc (Nat.le_refl _) _) hHeld.1, pw_cell_below ((Below.refl _ _).alloc (Nat.le_refl _) _) hHeld.2.1, pw_cell_below ((Below.refl _ _).alloc (Nat.le_refl _) _) hHeld.2.2⟩ (fun hHeld => ?_)
          clear hK K
          refine norm_ (a' := ?_) ?_ ?_
          rotate_left
          · show Act.put _ (some 97) _ = _
            go_simp
            rfl
          refine one_ (i := 6) (N := some 98) #[true, true, true, true, true, true, true, false, false] rfl rfl (by kernel_rfl) (by decide) (fun K hK => ?_)
          refine Kd.R_append_step k63 (w0 := W1) w6.heap.size (by rfl) (.tmp 93) (.tmp 97) 22 63 (.agg #[.string ⟨#[]⟩, .slice none 0 0]) 40 rfl Try.underlying22 info63' rfl (by decide) (by decide) (.slice At nt ct) ys vr _ (fun _ => True) (fun k => Wd.heap.size ≤ k) rfl rfl ?hp ?hok (fun _ _ => trivial) HO1.out (Below.refl _ _) ?hS ?hl ?_
          case hp => exact k63_mkM _ _ _ vr (Kd.R_lower (Kd.R_mono (Kd.R_bound HV1.out) (fun k hk => hk.2.1)) HLd.out)
          case hok => exact fun k hk => ⟨trivial, fun he => by have := Kd.R_lt HOd.out k he.symm; omega⟩
          case hS => exact Nat.le_trans HLd.out HL1.out
          case hl => have := Hlim.out; omega
          intro v1 W2 hO2 hB2 hg2 hat2
          have HF2 : Hid (Oth w6.heap.size bj 63 W W2) := HF1.out.trans (Oth.grown hg2 (fun k hk => ⟨Kd.R_base HO1.out k hk, Kd.R_typed HO1.out k hk⟩))
          have HT2 := Lib.hid (blk_grown HT1.out hg2 (Kd.R_ne HO1.out HT1.out (by decide)))
          have HP2 := Lib.hid (blk_grown HP1.out hg2 (Kd.R_ne HO1.out HP1.out (by decide)))
          obtain ⟨A2, c2, hv2⟩ := Kd.R_slice hO2
          obtain ⟨m2, hm2⟩ : ∃ m2, m2 = (ys ++ [vr]).length := ⟨_, rfl⟩
          rw [← hm2] at hv2
          subst hv2
          have Hm2 := Lib.hid hm2
          have HO2 := Lib.hid hO2
          refine hK.out _ _ ⟨blk_at HT2.out 1 rfl, blk_at HP2.out 2 rfl, blk_at HP2.out 3 rfl⟩ (fun hHeld => ?_)
          clear hK K hO2 hB2 hg2 hat2 hm2 HT1 HP1 HO1 HF1 HV1 HL1 HOd HLd
          refine norm_ (a' := ?_) ?_ ?_
          rotate_left
          · show Act.put _ (some 98) _ = _
            go_simp
            rfl
          refine pure_ (i := 7) (N := some 99) (v := ?_) (a' := ?_) #[true, true, true, true, true, true, true, true, false] rfl rfl (by kernel_rfl) (fun _ _ _ h => h) (Or.inl ⟨by rfl, ?_⟩) ?_ ?_
          rotate_left
          · intro w'
            go_simp
            with_reducible rfl
          rotate_left
          · go_simp
            rfl
          refine last_ (i := 8) (N := none) #[true, true, true, true, true, true, true, true, true] rfl rfl (by kernel_rfl) (by decide) (fun K hK => ?_)
          have x1 : W2.cell? ⟨bj, 1, none⟩ = some (.slice At nt ct) := blk_at HT2.out 1 rfl
          have z1 : W2.frozen? ⟨bj, 1, none⟩ = false := blk_frozen HT2.out 1
          refine skip_ (w1 := W2.setCell ⟨bj, 1, none⟩ (.slice A2 m2 c2)) (by rfl) rfl (by go_simp) ?_
          clear x1 z1
          refine hK.out _ _ ?_
          have HT9 : Hid ((W2.setCell ⟨bj, 1, none⟩ (.slice A2 m2 c2)).heap[bj]? = some (.cells #[.int .i64 en, .slice A2 m2 c2, .slice Ag ng cg] 27 (0, 0))) := blk_put HT2.out 1 _ rfl
          have HO9 := Lib.hid (Kd.R_set HO2.out HT2.out (by decide) 1 (.slice A2 m2 c2))
          have HF9 : Hid (Oth w6.heap.size bj 63 W (W2.setCell ⟨bj, 1, none⟩ (.slice A2 m2 c2))) := HF2.out.trans (Oth.set 1 _)
          clear hK K HT2 HP2 HO2 HF2 hHeld
          generalize W2.setCell ⟨bj, 1, none⟩ (.slice A2 m2 c2) = W9 at *
          refine done_ (by kernel_rfl) ?_
          refine ⟨HF9.out.rnd rfl HSV.out HT.out, Eq.mpr (congrArg (fun z => IJ2 w w6.heap.size w4.heap.size D g2 g3 bj bg mg en (.slice Ag ng cg) GG ff kk z W9) HPM.out) ⟨HF9.out.below HBV.out HL2.out.1 HL2.out.2.1, Nat.le_trans HSV.out HF9.out.size, ⟨_, HT9.out, ?_⟩, HF9.out.row HGr.out (by decide) HT.out (by decide), HF9.out.map HMg.out HL2.out.2.2.1 HL2.out.2.2.2.1, HF9.out.blk HIg.out HL2.out.2.2.2.2.1 (by decide), HF9.out.blk HI2.out HL2.out.2.2.2.2.2.1 (by decide), HF9.out.blk HI3.out HL2.out.2.2.2.2.2.2.1 (by decide), HF9.out.same _ _ HD1.out HL2.out.2.2.2.2.2.2.2.1 (.inr (fun cs e => by cases e))⟩⟩
          unfold joinSetF
          rw [filterMap_snoc, show joinKeepF ff ⟨vl, vr, isL, true⟩ = some vr from rfl]
          have := HO9.out
          rw [Hys.out] at this
          exact this
        | false =>
          have p5 : W.cell? ⟨b, 5, none⟩ = some (.bool false) := blk_at HPx.out 5 rfl
          have hisL : isL = true := by
            cases isL with
            | true => rfl
            | false => have := HMEM.out.2.2 (by first | rfl | trivial); first | cases this | exact this.elim | (simp at this)
          subst hisL
          refine regF_ (free_round l) (by kernel_rfl) (by rintro ⟨_, _, h⟩; exact h) ?_
          go_wp2_with (fail)
          clear p5
          refine wpIn_cond_false rfl (wpIn_seq ?_)
          have HOC := Lib.hid (chkCells_ok ds none (chkS_ok HOD.out.1).2.1 vl (HMEM.out.1 (by first | rfl | trivial)))
          have hlook := HMg.out.look (t := 65) Try.underlying65 Try.underlying9 Try.underlying3 (Try.zeroValue3 W) vl.f0 (small_max HOC.out.1)
          have p0 : W.cell? ⟨b, 0, none⟩ = some (.string vl.f0) := blk_at HPx.out 0 rfl
          have q0 : W.cell? ⟨bg, 0, none⟩ = some (.map (some mg)) := blk_at HIg.out 0 rfl
          by_cases hfg : ff vl.f0 = 0
          · rw [hfg] at hlook
            have HKP : Hid (joinKeepF ff ⟨vl, vr, true, false⟩ = some vl) := Lib.hid (by unfold joinKeepF; simp [hfg])
            clear hfg
            refine regF_ (free_round l) (by kernel_rfl) (by rintro ⟨_, _, h⟩; exact h) ?_
            go_wp2_with (fail)
            clear hlook p0 q0
            refine wpIn_cond_true rfl ?_
            have HCP : Hid (∀ V, Below w.heap.size w V → Calls Try.prog 37 #[.agg #[.string vl.f0, .slice la nl lc]] V fun e w' => Copied vl V e w') := Lib.hid (fun V hV => by rw [Hnl.out]; exact copied37 vl la lc V (Kd.C_below CL.out.1 hV) CL.out.2 HOC.out)
            have Hnc := Hnl
            refine startIn_ (m := 9) (S := (fun w' => w'.cell? ⟨bj, 1, none⟩ = some (.slice At nt ct) ∧ w'.cell? ⟨b, 0, none⟩ = some (.string vl.f0) ∧ w'.cell? ⟨b, 1, none⟩ = some (.slice la nl lc))) (ds := [8]) (free_round _) (by kernel_rfl) (by rintro ⟨_, _, h⟩; exact h) #[false, false, false, false, false, false, false, false, false] (by kernel_rfl) rfl rfl ⟨blk_at HT.out 1 rfl, blk_at HPx.out 0 rfl, blk_at HPx.out 1 rfl⟩ (fun hHeld => ?_)
            have HTd : Hid (W.drew.heap[bj]? = some (.cells #[.int .i64 en, .slice At nt ct, .slice Ag ng cg] 27 (0, 0))) := HT.out
            have HPd : Hid (W.drew.heap[b]? = some (.cells #[.string vl.f0, .slice la nl lc, .string vr.f0, .slice ra nr rc, .bool true, .bool false] 71 (0, 0))) := HPx.out
            have HOd := Lib.hid (Kd.R_drew HO.out)
            have HBd : Hid (Below w.heap.size w W.drew) := HBW.out.drew
            have HLd : Hid (w6.heap.size ≤ W.drew.heap.size) := HLW.out
            have HFd : Hid (Oth w6.heap.size bj 63 W W.drew) := Oth.of_below (Below.refl _ _).drew
            generalize W.drew = Wd at hHeld HTd HPd HOd HBd HLd HFd ⊢
            refine pure_ (i := 0) (N := some 107) (v := ?_) (a' := ?_) #[true, false, false, false, false, false, false, false, false] rfl rfl (by kernel_rfl) (fun _ _ _ h => h) (Or.inl ⟨by rfl, ?_⟩) ?_ ?_
            rotate_left
            · intro w'
              go_simp
              with_reducible rfl
            rotate_left
            · go_simp
              rfl
            refine take_ (i := 1) (N := some 108) (v := ?_) (a' := ?_) #[true, true, false, false, false, false, false, false, false] rfl rfl (by kernel_rfl) (fun _ _ _ h => h) (Or.inl ⟨by rfl, ?_⟩) hHeld ?_ ?_
            rotate_left
            · rintro w' ⟨s0, s1, s2⟩
              go_simp
              with_reducible rfl
            rotate_left
            · go_simp
              rfl
            refine pure_ (i := 2) (N := some 109) (v := ?_) (a' := ?_) #[true, true, true, false, false, false, false, false, false] rfl rfl (by kernel_rfl) (fun _ _ _ h => h) (Or.inl ⟨by rfl, ?_⟩) ?_ ?_
            rotate_left
            · intro w'
              go_simp
              with_reducible rfl
            rotate_left
            · go_simp
              rfl
            refine take_ (i := 3) (N := some 110) (v := ?_) (a' := ?_) #[true, true, true, true, false, false, false, false, false] rfl rfl (by kernel_rfl) (fun _ _ _ h => h) (Or.inl ⟨by rfl, ?_⟩) hHeld ?_ ?_
            rotate_left
            · rintro w' ⟨s0, s1, s2⟩
              go_simp
              with_reducible rfl
            rotate_left
            · go_simp
              rfl
            refine one_ (i := 4) (N := some 111) #[true, true, true, true, true, false, false, false, false] rfl rfl (by kernel_rfl) (by decide) (fun K hK => ?_)
            refine goes_ Try.func37 (by kernel_rfl) rfl #[.agg #[.string vl.f0, .slice la nl lc]] (by rfl) rfl rfl (by simp only [List.map_toArray, List.map_cons, List.map_nil]; rfl) ?_
            refine (HCP.out Wd HBd.out).mono ?_
            rintro e W1 ⟨v, rfl, hv, hb⟩
            obtain ⟨Av, cv, hvv⟩ := Kd.R_slice hv.out
            rw [← Hnc.out] at hvv
            subst hvv
            refine ⟨_, rfl, ?_⟩
            have HT1 := Lib.hid (blk_below HTd.out hb.out)
            have HP1 := Lib.hid (blk_below HPd.out hb.out)
            have HO1 := Lib.hid (Kd.R_below HOd.out hb.out)
            have HF1 : Hid (Oth w6.heap.size bj 63 W W1) := HFd.out.trans (Oth.of_below hb.out)
            have HV1 := Lib.hid hv.out
            have HL1 := Lib.hid hb.out.size
            refine hK.out _ _ ⟨blk_at HT1.out 1 rfl, blk_at HP1.out 0 rfl, blk_at HP1.out 1 rfl⟩ (fun hHeld => ?_)
            clear hK K hb hv HTd HPd HFd HBd
            refine norm_ (a' := ?_) ?_ ?_
            rotate_left
            · show Act.put _ (some 111) _ = _
              go_simp
              rfl
            refine one_ (i := 5) (N := some 112) #[true, true, true, true, true, true, false, false, false] rfl rfl (by kernel_rfl) (by decide) (fun K hK => ?_)
            refine value_ (w1 := (W1.alloc (.cells [.string vl.f0, .slice Av nl cv].toArray 63))) (v := .slice (some ⟨W1.heap.size, 0, none⟩) 1 1) (by rfl) rfl (by go_simp) ?_
            refine hK.out _ _ ⟨pw_cell_below ((Below.refl _ _).alloc (Nat.le_refl _) _) hHeld.1, pw_cell_below ((Below.refl _ _).alloc (Nat.le_refl _) _) hHeld.2.1, pw_cell_below ((Below.refl _ _).alloc (Nat.le_refl _) _) hHeld.2.2⟩ (fun hHeld => ?_)
            clear hK K
            refine norm_ (a' := ?_) ?_ ?_
            rotate_left
            · show Act.put _ (some 112) _ = _
              go_simp
              rfl
            refine one_ (i := 6) (N := some 113) #[true, true, true, true, true, true, true, false, false] rfl rfl (by kernel_rfl) (by decide) (fun K hK => ?_)
            refine Kd.R_append_step k63 (w0 := W1) w6.heap.size (by rfl) (.tmp 108) (.tmp 112) 22 63 (.agg #[.string ⟨#[]⟩, .slice none 0 0]) 40 rfl Try.underlying22 info63' rfl (by decide) (by decide) (.slice At nt ct) ys vl _ (fun _ => True) (fun k => Wd.heap.size ≤ k) rfl rfl ?hp ?hok (fun _ _ => trivial) HO1.out (Below.refl _ _) ?hS ?hl ?_
            case hp => exact k63_mkM _ _ _ vl (Kd.R_lower (Kd.R_mono (Kd.R_bound HV1.out) (fun k hk => hk.2.1)) HLd.out)
            case hok => exact fun k hk => ⟨trivial, fun he => by have := Kd.R_lt HOd.out k he.symm; omega⟩
            case hS => exact Nat.le_trans HLd.out HL1.out
            case hl => have := Hlim.out; omega
            intro v1 W2 hO2 hB2 hg2 hat2
            have HF2 : Hid (Oth w6.heap.size bj 63 W W2) := HF1.out.trans (Oth.grown hg2 (fun k hk => ⟨Kd.R_base HO1.out k hk, Kd.R_typed HO1.out k hk⟩))
            have HT2 := Lib.hid (blk_grown HT1.out hg2 (Kd.R_ne HO1.out HT1.out (by decide)))
            have HP2 := Lib.hid (blk_grown HP1.out hg2 (Kd.R_ne HO1.out HP1.out (by decide)))
            obtain ⟨A2, c2, hv2⟩ := Kd.R_slice hO2
            obtain ⟨m2, hm2⟩ : ∃ m2, m2 = (ys ++ [vl]).length := ⟨_, rfl⟩
            rw [← hm2] at hv2
            subst hv2
            have Hm2 := Lib.hid hm2
            have HO2 := Lib.hid hO2
            refine hK.out _ _ ⟨blk_at HT2.out 1 rfl, blk_at HP2.out 0 rfl, blk_at HP2.out 1 rfl⟩ (fun hHeld => ?_)
            clear hK K hO2 hB2 hg2 hat2 hm2 HT1 HP1 HO1 HF1 HV1 HL1 HOd HLd
            refine norm_ (a' := ?_) ?_ ?_
            rotate_left
            · show Act.put _ (some 113) _ = _
              go_simp
              rfl
            refine pure_ (i := 7) (N := some 114) (v := ?_) (a' := ?_) #[true, true, true, true, true, true, true, true, false] rfl rfl (by kernel_rfl) (fun _ _ _ h => h) (Or.inl ⟨by rfl, ?_⟩) ?_ ?_
            rotate_left
            · intro w'
              go_simp
              with_reducible rfl
            rotate_left
            · go_simp
              rfl
            refine last_ (i := 8) (N := none) #[true, true, true, true, true, true, true, true, true] rfl rfl (by kernel_rfl) (by decide) (fun K hK => ?_)
            have x1 : W2.cell? ⟨bj, 1, none⟩ = some (.slice At nt ct) := blk_at HT2.out 1 rfl
            have z1 : W2.frozen? ⟨bj, 1, none⟩ = false := blk_frozen HT2.out 1
            refine skip_ (w1 := W2.setCell ⟨bj, 1, none⟩ (.slice A2 m2 c2)) (by rfl) rfl (by go_simp) ?_
            clear x1 z1
            refine hK.out _ _ ?_
            have HT9 : Hid ((W2.setCell ⟨bj, 1, none⟩ (.slice A2 m2 c2)).heap[bj]? = some (.cells #[.int .i64 en, .slice A2 m2 c2, .slice Ag ng cg] 27 (0, 0))) := blk_put HT2.out 1 _ rfl
            have HO9 := Lib.hid (Kd.R_set HO2.out HT2.out (by decide) 1 (.slice A2 m2 c2))
            have HF9 : Hid (Oth w6.heap.size bj 63 W (W2.setCell ⟨bj, 1, none⟩ (.slice A2 m2 c2))) := HF2.out.trans (Oth.set 1 _)
            clear hK K HT2 HP2 HO2 HF2 hHeld
            generalize W2.setCell ⟨bj, 1, none⟩ (.slice A2 m2 c2) = W9 at *
            refine done_ (by kernel_rfl) ?_
            refine ⟨HF9.out.rnd rfl HSV.out HT.out, Eq.mpr (congrArg (fun z => IJ2 w w6.heap.size w4.heap.size D g2 g3 bj bg mg en (.slice Ag ng cg) GG ff kk z W9) HPM.out) ⟨HF9.out.below HBV.out HL2.out.1 HL2.out.2.1, Nat.le_trans HSV.out HF9.out.size, ⟨_, HT9.out, ?_⟩, HF9.out.row HGr.out (by decide) HT.out (by decide), HF9.out.map HMg.out HL2.out.2.2.1 HL2.out.2.2.2.1, HF9.out.blk HIg.out HL2.out.2.2.2.2.1 (by decide), HF9.out.blk HI2.out HL2.out.2.2.2.2.2.1 (by decide), HF9.out.blk HI3.out HL2.out.2.2.2.2.2.2.1 (by decide), HF9.out.same _ _ HD1.out HL2.out.2.2.2.2.2.2.2.1 (.inr (fun cs e => by cases e))⟩⟩
            unfold joinSetF
            rw [filterMap_snoc, HKP.out]
            have := HO9.out
            rw [Hys.out] at this
            exact this
          · have HKP : Hid (joinKeepF ff ⟨vl, vr, true, false⟩ = none) := Lib.hid (by unfold joinKeepF; simp [hfg])
            generalize hzf : ff vl.f0 = zf at hlook hfg
            clear hzf
            have k1 : (zf == 0) = false := beq_false_of_ne hfg
            clear hfg
            refine regF_ (free_round l) (by kernel_rfl) (by rintro ⟨_, _, h⟩; exact h) ?_
            go_wp2_with (fail)
            clear hlook p0 q0 k1
            refine wpIn_cond_false rfl (wpIn_skip ?_)
            exact ⟨Rnd.refl _, Eq.mpr (congrArg (fun z => IJ2 w w6.heap.size w4.heap.size D g2 g3 bj bg mg en (.slice Ag ng cg) GG ff kk z W) HPM.out) ⟨HBV.out, HSV.out, ⟨_, HT.out, by unfold joinSetF; rw [filterMap_snoc, HKP.out]; have := HO.out; rw [Hys.out] at this; exact this⟩, HGr.out, HMg.out, HIg.out, HI2.out, HI3.out, HD1.out⟩⟩
      case done2 =>
        intro D2 xs W hD2 hS hI hK
        have hxs : plC xs = mrgC ds es := hS
        rw [hxs] at hI
        obtain ⟨ib, isz, ⟨vt, it, irow⟩, igr, img, ibg, i2, i3, id1⟩ := hI
        have hlim := mrgC_le _ ds es (Nat.le_refl _)
        obtain ⟨ys, hys⟩ : ∃ ys, ys = joinSetF ff (mrgC ds es) := ⟨_, rfl⟩
        rw [← hys] at irow HR0
        obtain ⟨At, ct, hvt⟩ := Kd.R_slice irow
        obtain ⟨nt, hnt⟩ : ∃ nt, nt = ys.length := ⟨_, rfl⟩
        rw [← hnt] at hvt
        subst hvt
        have Hnt := Lib.hid hnt
        clear HT HGr HMg HIg HI2 HI3 HK1 HX1 HX2 HX3
        have HT := Lib.hid it
        have HO := Lib.hid irow
        have HGr := Lib.hid igr
        have HBV := Lib.hid ib
        have HI2 := Lib.hid i2
        have HI3 := Lib.hid i3
        have HK1 := Lib.hid id1
        have HK2 := Lib.hid hK
        have hge : w.heap.size ≤ g2 ∧ w.heap.size ≤ g3 ∧ g2 < w4.heap.size ∧ g3 < w4.heap.size ∧ w4.heap.size ≤ D ∧ w4.heap.size ≤ D2 ∧ D ≠ D2 ∧ g2 ≠ bj ∧ g3 ≠ bj := by have := HS4.out; have := HTF.out; have := HE.out; have := HMB.out; have := HL6.out; have := HL2.out; omega
        have c1 : W.cell? ⟨bj, 0, none⟩ = some (.int .i64 en) := blk_at it 0 rfl
        have c2 : W.cell? ⟨bj, 1, none⟩ = some (.slice At nt ct) := blk_at it 1 rfl
        have c3 : W.cell? ⟨bj, 2, none⟩ = some (.slice Ag ng cg) := blk_at it 2 rfl
        have x0 : W.cell? ⟨g2, 0, none⟩ = some (.int .i64 0) := blk_at i2 0 rfl
        have x1 : W.cell? ⟨g2, 1, none⟩ = some (.slice none 0 0) := blk_at i2 1 rfl
        have x2 : W.cell? ⟨g2, 2, none⟩ = some (.slice none 0 0) := blk_at i2 2 rfl
        have y0 : W.frozen? ⟨g2, 0, none⟩ = false := blk_frozen i2 0
        have y1 : W.frozen? ⟨g2, 1, none⟩ = false := blk_frozen i2 1
        have y2 : W.frozen? ⟨g2, 2, none⟩ = false := blk_frozen i2 2
        have u0 : W.cell? ⟨g3, 0, none⟩ = some (.int .i64 0) := blk_at i3 0 rfl
        have v0 : W.frozen? ⟨g3, 0, none⟩ = false := blk_frozen i3 0
        clear hys hnt ib isz it irow igr img ibg i2 i3 id1 hxs hS hlim hK
        by_cases h1 : 64 < nt
        · have k1 : decide (64 < (nt : Int)) = true := decide_eq_true (by omega)
          have HR : Hid (joinP dn ds dg en es eg = (0, [], [], 111)) := Lib.hid (HR0.out.trans (if_pos (.inl (by rw [← Hnt.out]; exact h1))))
          clear h1
          go_wp2_with (fail)
          have hb4 : ((((W.setCell ⟨g2, 0, none⟩ (.int .i64 0)).setCell ⟨g2, 1, none⟩ (.slice none 0 0)).setCell ⟨g2, 2, none⟩ (.slice none 0 0)).setCell ⟨g3, 0, none⟩ (.int .i64 111)).heap[g2]? = some (.cells #[.int .i64 0, .slice none 0 0, .slice none 0 0] 27 (0, 0)) := blk_far (blk_put (blk_put (blk_put HI2.out 0 _ rfl) 1 _ rfl) 2 _ rfl) l23 _
          have hb5 : ((((W.setCell ⟨g2, 0, none⟩ (.int .i64 0)).setCell ⟨g2, 1, none⟩ (.slice none 0 0)).setCell ⟨g2, 2, none⟩ (.slice none 0 0)).setCell ⟨g3, 0, none⟩ (.int .i64 111)).heap[g3]? = some (.cells #[.int .i64 111] 32 (0, 0)) := blk_put (blk_far (blk_far (blk_far HI3.out l32 _) l32 _) l32 _) 0 _ rfl
          have hk2 : ((((W.setCell ⟨g2, 0, none⟩ (.int .i64 0)).setCell ⟨g2, 1, none⟩ (.slice none 0 0)).setCell ⟨g2, 2, none⟩ (.slice none 0 0)).setCell ⟨g3, 0, none⟩ (.int .i64 111)).heap[D2]? = some (.deferred (some [])) := ((Below.heap_setCell _ _ _ _ (show D2 ≠ g3 by omega)).trans ((Below.heap_setCell _ _ _ _ (show D2 ≠ g2 by omega)).trans ((Below.heap_setCell _ _ _ _ (show D2 ≠ g2 by omega)).trans (Below.heap_setCell _ _ _ _ (show D2 ≠ g2 by omega))))).trans HK2.out
          have hk1 : (((((W.setCell ⟨g2, 0, none⟩ (.int .i64 0)).setCell ⟨g2, 1, none⟩ (.slice none 0 0)).setCell ⟨g2, 2, none⟩ (.slice none 0 0)).setCell ⟨g3, 0, none⟩ (.int .i64 111)).putObj D2 (.deferred none)).heap[D]? = some (.deferred (some [])) := (World.putObj_heap_other (by omega)).trans (((Below.heap_setCell _ _ _ _ (show D ≠ g3 by omega)).trans ((Below.heap_setCell _ _ _ _ (show D ≠ g2 by omega)).trans ((Below.heap_setCell _ _ _ _ (show D ≠ g2 by omega)).trans (Below.heap_setCell _ _ _ _ (show D ≠ g2 by omega))))).trans HK1.out)
          have ht1 : Turn w4.heap.size ((((W.setCell ⟨g2, 0, none⟩ (.int .i64 0)).setCell ⟨g2, 1, none⟩ (.slice none 0 0)).setCell ⟨g2, 2, none⟩ (.slice none 0 0)).setCell ⟨g3, 0, none⟩ (.int .i64 111)) (((((W.setCell ⟨g2, 0, none⟩ (.int .i64 0)).setCell ⟨g2, 1, none⟩ (.slice none 0 0)).setCell ⟨g2, 2, none⟩ (.slice none 0 0)).setCell ⟨g3, 0, none⟩ (.int .i64 111)).putObj D2 (.deferred none)) := Turn.of (grownBy_putObj' _ D2 _) (fun r e => by cases e; exact ⟨by omega, _, hk2, rfl⟩)
          have ht2 : Turn w4.heap.size (((((W.setCell ⟨g2, 0, none⟩ (.int .i64 0)).setCell ⟨g2, 1, none⟩ (.slice none 0 0)).setCell ⟨g2, 2, none⟩ (.slice none 0 0)).setCell ⟨g3, 0, none⟩ (.int .i64 111)).putObj D2 (.deferred none)) ((((((W.setCell ⟨g2, 0, none⟩ (.int .i64 0)).setCell ⟨g2, 1, none⟩ (.slice none 0 0)).setCell ⟨g2, 2, none⟩ (.slice none 0 0)).setCell ⟨g3, 0, none⟩ (.int .i64 111)).putObj D2 (.deferred none)).putObj D (.deferred none)) := Turn.of (grownBy_putObj' _ D _) (fun r e => by cases e; exact ⟨by omega, _, hk1, rfl⟩)
          have hw5 : Below w.heap.size w ((((((W.setCell ⟨g2, 0, none⟩ (.int .i64 0)).setCell ⟨g2, 1, none⟩ (.slice none 0 0)).setCell ⟨g2, 2, none⟩ (.slice none 0 0)).setCell ⟨g3, 0, none⟩ (.int .i64 111)).putObj D2 (.deferred none)).putObj D (.deferred none)) := Below.turn (Below.turn ((((HBV.out.setCell (show w.heap.size ≤ g2 by omega) _).setCell (show w.heap.size ≤ g2 by omega) _).setCell (show w.heap.size ≤ g2 by omega) _).setCell (show w.heap.size ≤ g3 by omega) _) ht1 hc0.size) ht2 hc0.size
          refine bodyD_two (D := D2) (D' := D) rfl hk2 hk1 (bodyPost_ret (results_two rfl rfl rfl (ht2.blk (ht1.blk hb4)) (ht2.blk (ht1.blk hb5)) Try.underlying27 rfl (by kernel_rfl) Try.underlying32) rfl ?_)
          rw [HR.out]
          exact ⟨.slice none 0 0, .slice none 0 0, rfl, Lib.hid (Kd.R_nil _ _ _ _ _), Lib.hid (Kd.R_nil _ _ _ _ _), Lib.hid hw5⟩
        have k1 : decide (64 < (nt : Int)) = false := decide_eq_false (by omega)
        by_cases h2 : 64 < ng
        · have k2 : decide (64 < (ng : Int)) = true := decide_eq_true (by omega)
          have HR : Hid (joinP dn ds dg en es eg = (0, [], [], 111)) := Lib.hid (HR0.out.trans (if_pos (.inr (by rw [← Hng.out]; exact h2))))
          clear h1 h2
          go_wp2_with (fail)
          have hb4 : ((((W.setCell ⟨g2, 0, none⟩ (.int .i64 0)).setCell ⟨g2, 1, none⟩ (.slice none 0 0)).setCell ⟨g2, 2, none⟩ (.slice none 0 0)).setCell ⟨g3, 0, none⟩ (.int .i64 111)).heap[g2]? = some (.cells #[.int .i64 0, .slice none 0 0, .slice none 0 0] 27 (0, 0)) := blk_far (blk_put (blk_put (blk_put HI2.out 0 _ rfl) 1 _ rfl) 2 _ rfl) l23 _
          have hb5 : ((((W.setCell ⟨g2, 0, none⟩ (.int .i64 0)).setCell ⟨g2, 1, none⟩ (.slice none 0 0)).setCell ⟨g2, 2, none⟩ (.slice none 0 0)).setCell ⟨g3, 0, none⟩ (.int .i64 111)).heap[g3]? = some (.cells #[.int .i64 111] 32 (0, 0)) := blk_put (blk_far (blk_far (blk_far HI3.out l32 _) l32 _) l32 _) 0 _ rfl
          have hk2 : ((((W.setCell ⟨g2, 0, none⟩ (.int .i64 0)).setCell ⟨g2, 1, none⟩ (.slice none 0 0)).setCell ⟨g2, 2, none⟩ (.slice none 0 0)).setCell ⟨g3, 0, none⟩ (.int .i64 111)).heap[D2]? = some (.deferred (some [])) := ((Below.heap_setCell _ _ _ _ (show D2 ≠ g3 by omega)).trans ((Below.heap_setCell _ _ _ _ (show D2 ≠ g2 by omega)).trans ((Below.heap_setCell _ _ _ _ (show D2 ≠ g2 by omega)).trans (Below.heap_setCell _ _ _ _ (show D2 ≠ g2 by omega))))).trans HK2.out
          have hk1 : (((((W.setCell ⟨g2, 0, none⟩ (.int .i64 0)).setCell ⟨g2, 1, none⟩ (.slice none 0 0)).setCell ⟨g2, 2, none⟩ (.slice none 0 0)).setCell ⟨g3, 0, none⟩ (.int .i64 111)).putObj D2 (.deferred none)).heap[D]? = some (.deferred (some [])) := (World.putObj_heap_other (by omega)).trans (((Below.heap_setCell _ _ _ _ (show D ≠ g3 by omega)).trans ((Below.heap_setCell _ _ _ _ (show D ≠ g2 by omega)).trans ((Below.heap_setCell _ _ _ _ (show D ≠ g2 by omega)).trans (Below.heap_setCell _ _ _ _ (show D ≠ g2 by omega))))).trans HK1.out)
          have ht1 : Turn w4.heap.size ((((W.setCell ⟨g2, 0, none⟩ (.int .i64 0)).setCell ⟨g2, 1, none⟩ (.slice none 0 0)).setCell ⟨g2, 2, none⟩ (.slice none 0 0)).setCell ⟨g3, 0, none⟩ (.int .i64 111)) (((((W.setCell ⟨g2, 0, none⟩ (.int .i64 0)).setCell ⟨g2, 1, none⟩ (.slice none 0 0)).setCell ⟨g2, 2, none⟩ (.slice none 0 0)).setCell ⟨g3, 0, none⟩ (.int .i64 111)).putObj D2 (.deferred none)) := Turn.of (grownBy_putObj' _ D2 _) (fun r e => by cases e; exact ⟨by omega, _, hk2, rfl⟩)
          have ht2 : Turn w4.heap.size (((((W.setCell ⟨g2, 0, none⟩ (.int .i64 0)).setCell ⟨g2, 1, none⟩ (.slice none 0 0)).setCell ⟨g2, 2, none⟩ (.slice none 0 0)).setCell ⟨g3, 0, none⟩ (.int .i64 111)).putObj D2 (.deferred none)) ((((((W.setCell ⟨g2, 0, none⟩ (.int .i64 0)).setCell ⟨g2, 1, none⟩ (.slice none 0 0)).setCell ⟨g2, 2, none⟩ (.slice none 0 0)).setCell ⟨g3, 0, none⟩ (.int .i64 111)).putObj D2 (.deferred none)).putObj D (.deferred none)) := Turn.of (grownBy_putObj' _ D _) (fun r e => by cases e; exact ⟨by omega, _, hk1, rfl⟩)
          have hw5 : Below w.heap.size w ((((((W.setCell ⟨g2, 0, none⟩ (.int .i64 0)).setCell ⟨g2, 1, none⟩ (.slice none 0 0)).setCell ⟨g2, 2, none⟩ (.slice none 0 0)).setCell ⟨g3, 0, none⟩ (.int .i64 111)).putObj D2 (.deferred none)).putObj D (.deferred none)) := Below.turn (Below.turn ((((HBV.out.setCell (show w.heap.size ≤ g2 by omega) _).setCell (show w.heap.size ≤ g2 by omega) _).setCell (show w.heap.size ≤ g2 by omega) _).setCell (show w.heap.size ≤ g3 by omega) _) ht1 hc0.size) ht2 hc0.size
          refine bodyD_two (D := D2) (D' := D) rfl hk2 hk1 (bodyPost_ret (results_two rfl rfl rfl (ht2.blk (ht1.blk hb4)) (ht2.blk (ht1.blk hb5)) Try.underlying27 rfl (by kernel_rfl) Try.underlying32) rfl ?_)
          rw [HR.out]
          exact ⟨.slice none 0 0, .slice none 0 0, rfl, Lib.hid (Kd.R_nil _ _ _ _ _), Lib.hid (Kd.R_nil _ _ _ _ _), Lib.hid hw5⟩
        have k2 : decide (64 < (ng : Int)) = false := decide_eq_false (by omega)
        have HR : Hid (joinP dn ds dg en es eg = (en, ys, GG, 0)) := Lib.hid (HR0.out.trans (if_neg (by rw [← Hnt.out, ← Hng.out]; omega)))
        clear h1 h2
        go_wp2_with (fail)
        have hb4 : ((((W.setCell ⟨g2, 0, none⟩ (.int .i64 en)).setCell ⟨g2, 1, none⟩ (.slice At nt ct)).setCell ⟨g2, 2, none⟩ (.slice Ag ng cg)).setCell ⟨g3, 0, none⟩ (.int .i64 0)).heap[g2]? = some (.cells #[.int .i64 en, .slice At nt ct, .slice Ag ng cg] 27 (0, 0)) := blk_far (blk_put (blk_put (blk_put HI2.out 0 _ rfl) 1 _ rfl) 2 _ rfl) l23 _
        have hb5 : ((((W.setCell ⟨g2, 0, none⟩ (.int .i64 en)).setCell ⟨g2, 1, none⟩ (.slice At nt ct)).setCell ⟨g2, 2, none⟩ (.slice Ag ng cg)).setCell ⟨g3, 0, none⟩ (.int .i64 0)).heap[g3]? = some (.cells #[.int .i64 0] 32 (0, 0)) := blk_put (blk_far (blk_far (blk_far HI3.out l32 _) l32 _) l32 _) 0 _ rfl
        have hk2 : ((((W.setCell ⟨g2, 0, none⟩ (.int .i64 en)).setCell ⟨g2, 1, none⟩ (.slice At nt ct)).setCell ⟨g2, 2, none⟩ (.slice Ag ng cg)).setCell ⟨g3, 0, none⟩ (.int .i64 0)).heap[D2]? = some (.deferred (some [])) := ((Below.heap_setCell _ _ _ _ (show D2 ≠ g3 by omega)).trans ((Below.heap_setCell _ _ _ _ (show D2 ≠ g2 by omega)).trans ((Below.heap_setCell _ _ _ _ (show D2 ≠ g2 by omega)).trans (Below.heap_setCell _ _ _ _ (show D2 ≠ g2 by omega))))).trans HK2.out
        have hk1 : (((((W.setCell ⟨g2, 0, none⟩ (.int .i64 en)).setCell ⟨g2, 1, none⟩ (.slice At nt ct)).setCell ⟨g2, 2, none⟩ (.slice Ag ng cg)).setCell ⟨g3, 0, none⟩ (.int .i64 0)).putObj D2 (.deferred none)).heap[D]? = some (.deferred (some [])) := (World.putObj_heap_other (by omega)).trans (((Below.heap_setCell _ _ _ _ (show D ≠ g3 by omega)).trans ((Below.heap_setCell _ _ _ _ (show D ≠ g2 by omega)).trans ((Below.heap_setCell _ _ _ _ (show D ≠ g2 by omega)).trans (Below.heap_setCell _ _ _ _ (show D ≠ g2 by omega))))).trans HK1.out)
        have ht1 : Turn w4.heap.size ((((W.setCell ⟨g2, 0, none⟩ (.int .i64 en)).setCell ⟨g2, 1, none⟩ (.slice At nt ct)).setCell ⟨g2, 2, none⟩ (.slice Ag ng cg)).setCell ⟨g3, 0, none⟩ (.int .i64 0)) (((((W.setCell ⟨g2, 0, none⟩ (.int .i64 en)).setCell ⟨g2, 1, none⟩ (.slice At nt ct)).setCell ⟨g2, 2, none⟩ (.slice Ag ng cg)).setCell ⟨g3, 0, none⟩ (.int .i64 0)).putObj D2 (.deferred none)) := Turn.of (grownBy_putObj' _ D2 _) (fun r e => by cases e; exact ⟨by omega, _, hk2, rfl⟩)
        have ht2 : Turn w4.heap.size (((((W.setCell ⟨g2, 0, none⟩ (.int .i64 en)).setCell ⟨g2, 1, none⟩ (.slice At nt ct)).setCell ⟨g2, 2, none⟩ (.slice Ag ng cg)).setCell ⟨g3, 0, none⟩ (.int .i64 0)).putObj D2 (.deferred none)) ((((((W.setCell ⟨g2, 0, none⟩ (.int .i64 en)).setCell ⟨g2, 1, none⟩ (.slice At nt ct)).setCell ⟨g2, 2, none⟩ (.slice Ag ng cg)).setCell ⟨g3, 0, none⟩ (.int .i64 0)).putObj D2 (.deferred none)).putObj D (.deferred none)) := Turn.of (grownBy_putObj' _ D _) (fun r e => by cases e; exact ⟨by omega, _, hk1, rfl⟩)
        have hw5 : Below w.heap.size w ((((((W.setCell ⟨g2, 0, none⟩ (.int .i64 en)).setCell ⟨g2, 1, none⟩ (.slice At nt ct)).setCell ⟨g2, 2, none⟩ (.slice Ag ng cg)).setCell ⟨g3, 0, none⟩ (.int .i64 0)).putObj D2 (.deferred none)).putObj D (.deferred none)) := Below.turn (Below.turn ((((HBV.out.setCell (show w.heap.size ≤ g2 by omega) _).setCell (show w.heap.size ≤ g2 by omega) _).setCell (show w.heap.size ≤ g2 by omega) _).setCell (show w.heap.size ≤ g3 by omega) _) ht1 hc0.size) ht2 hc0.size
        refine bodyD_two (D := D2) (D' := D) rfl hk2 hk1 (bodyPost_ret (results_two rfl rfl rfl (ht2.blk (ht1.blk hb4)) (ht2.blk (ht1.blk hb5)) Try.underlying27 rfl (by kernel_rfl) Try.underlying32) rfl ?_)
        rw [HR.out]
        have hset : ∀ {α : Type} {d : Kd α} {e : Nat} {v : Value} {l : List α} {bs : Nat}, d.R e W bs (fun _ => True) v l → (∀ q, q ∈ e :: d.E → q ≠ 27) → (∀ q, q ∈ e :: d.E → q ≠ 32) → d.R e ((((W.setCell ⟨g2, 0, none⟩ (.int .i64 en)).setCell ⟨g2, 1, none⟩ (.slice At nt ct)).setCell ⟨g2, 2, none⟩ (.slice Ag ng cg)).setCell ⟨g3, 0, none⟩ (.int .i64 0)) bs (fun _ => True) v l := fun h q1 q2 =>
          Kd.R_set (Kd.R_set (Kd.R_set (Kd.R_set h HI2.out q1 0 _) (blk_put HI2.out 0 _ rfl) q1 1 _) (blk_put (blk_put HI2.out 0 _ rfl) 1 _ rfl) q1 2 _) (blk_far (blk_far (blk_far HI3.out l32 _) l32 _) l32 _) q2 0 _
        exact ⟨.slice At nt ct, .slice Ag ng cg, rfl, Lib.hid (Kd.R_lower (R_turn (R_turn (hset HO.out (by decide) (by decide)) ht1) ht2) hc6.size), Lib.hid (Kd.R_lower (R_turn (R_turn (hset HGr.out (by decide) (by decide)) ht1) ht2) hc0.size), Lib.hid hw5⟩
      case stop2 =>
        intro D2 c pre W _ _ h _
        exact h.elim
    case stop =>
      intro D c pre W hD _ h hK
      obtain ⟨rfl, h1, h2, h3, h4⟩ := h
      refine wp_ret ?_
      have HR : Hid (joinP dn ds dg en es eg = (0, [], [], 110)) := Lib.hid (by unfold joinP; rw [if_neg (by rw [HZ1.out]; simp), if_neg (by rw [HZ2.out]; simp), if_pos h4])
      have hge : g2 ≠ D ∧ g3 ≠ D := by have := HS4.out; have := HTF.out; have := HMB.out; have := HE.out; omega
      have ht5 : Turn w4.heap.size W (W.putObj D (.deferred none)) := Turn.of (grownBy_putObj' _ D _) (fun r e => by cases e; exact ⟨hD, _, hK, rfl⟩)
      refine bodyD_one rfl hK (bodyPost_ret (results_two rfl rfl rfl (ht5.blk h2) (ht5.blk h3) Try.underlying27 rfl (by kernel_rfl) Try.underlying32) rfl ?_)
      rw [HR.out]
      exact ⟨.slice none 0 0, .slice none 0 0, rfl, Lib.hid (Kd.R_nil _ _ _ _ _), Lib.hid (Kd.R_nil _ _ _ _ _), Lib.hid (Below.turn h1 ht5 hc0.size)⟩
end Go.Proofs.Ytpplnhefpcofoaa.PDeltaJoin
