/- A range over a function, its variable boxed: the law as the functions of this seat use it. -/
import Derived.Test.YtpplnhefpcofoaaZMS
namespace Go.Proofs.Ytpplnhefpcofoaa.PDeltaJoin
open Go.RowKit Go.Proofs.YtpplnhefpcofoaaW.PrintWords Go.Proofs.YtpplnhefpcofoaaW.PrintLast
set_option linter.unusedVariables false
set_option linter.unusedSimpArgs false
/-- The loop's own book-keeping turns nothing but blocks of its own. -/
structure Turn (L : Nat) (W W' : World) : Prop where
  os : W'.os = W.os
  tape : W'.tape = W.tape
  output : W'.output = W.output
  size : W.heap.size ≤ W'.heap.size
  low : ∀ k, k < L → k < W.heap.size → W'.heap[k]? = W.heap[k]?
  cells : ∀ (k : Nat) (o : Obj), W.heap[k]? = some o → o.isCells = true → W'.heap[k]? = some o
theorem Turn.of {L : Nat} {W W' : World} {row : Option Nat} (hg : W.grownBy W' row) (hr : ∀ r, row = some r → L ≤ r ∧ ∃ o : Obj, W.heap[r]? = some o ∧ o.isCells = false) : Turn L W W' :=
  ⟨hg.os, hg.tape, hg.output, hg.size, fun k hk hlt => hg.block k hlt (fun e => by have := (hr k e.symm).1; omega), fun k o hk ho => by
    have hlt : k < W.heap.size := (Array.getElem?_eq_some_iff.1 hk).1
    refine (hg.block k hlt (fun e => ?_)).trans hk
    obtain ⟨_, o', ho', hc⟩ := hr k e.symm
    rw [hk] at ho'
    cases ho'
    rw [ho] at hc
    cases hc⟩
theorem Turn.alloc (L : Nat) (W : World) (o : Obj) : Turn L W (W.alloc o) := Turn.of (row := none) (World.grownBy_alloc W o none) (fun r e => by cases e)
theorem Turn.blk {L : Nat} {W W' : World} (h : Turn L W W') {k : Nat} {cs : Array Value} {t : TypeId} {fr : Nat × Nat} (hk : W.heap[k]? = some (.cells cs t fr)) : W'.heap[k]? = some (.cells cs t fr) := h.cells k _ hk rfl
theorem R_turn {α : Type} {d : Kd α} {e base L : Nat} {ok : Nat → Prop} {W W' : World} {v : Value} {xs : List α} (h : d.R e W base ok v xs) (ht : Turn L W W') : d.R e W' base ok v xs := by
  refine Kd.R_mono (Kd.R_move (Kd.R_bound h) (fun k hk => ?_)) (fun k hk => hk.1)
  obtain ⟨_, _, hlt, q, _, cs, hc⟩ := hk
  rw [hc]
  exact ht.blk hc
theorem MapS.turn {P : Program} {k e L : Nat} {W W' : World} {b n : Nat} {f : ByteArray → Int} (h : MapS P k e W b n f) (ht : Turn L W W') (hb : b < L) : MapS P k e W' b n f := h.move (ht.low b hb h.lt)
theorem Below.turn {w0 : World} {L : Nat} {W W' : World} (h : Below w0.heap.size w0 W) (ht : Turn L W W') (hL : w0.heap.size ≤ L) : Below w0.heap.size w0 W' :=
  ⟨ht.os.trans h.os, ht.tape.trans h.tape, ht.output.trans h.output, Nat.le_trans h.size ht.size, fun k hk => (ht.low k (by omega) (Nat.lt_of_lt_of_le hk h.size)).trans (h.block k hk)⟩
/-- What a round may do: turn the blocks X and what is laid since the loop began; what is no cells, there, lies as it lay. -/
structure Rnd (L : Nat) (X : Nat → Prop) (W W' : World) : Prop where
  os : W'.os = W.os
  tape : W'.tape = W.tape
  output : W'.output = W.output
  size : W.heap.size ≤ W'.heap.size
  block : ∀ k, k < L → ¬ X k → W'.heap[k]? = W.heap[k]?
  non : ∀ (k : Nat) (o : Obj), L ≤ k → W.heap[k]? = some o → o.isCells = false → W'.heap[k]? = some o
section
variable {L : Nat} {X : Nat → Prop} {W W1 W2 : World}
theorem Rnd.refl (W : World) : Rnd L X W W := ⟨rfl, rfl, rfl, Nat.le_refl _, fun _ _ _ => rfl, fun _ _ _ h _ => h⟩
theorem Rnd.trans (h : Rnd L X W W1) (k : Rnd L X W1 W2) : Rnd L X W W2 :=
  ⟨k.os.trans h.os, k.tape.trans h.tape, k.output.trans h.output, Nat.le_trans h.size k.size, fun i hi hx => (k.block i hi hx).trans (h.block i hi hx), fun i o hi ho hc => k.non i o hi (h.non i o hi ho hc) hc⟩
theorem Rnd.kp (h : Rnd L X W W1) : KpX L X W W1 := ⟨h.os, h.tape, h.output, h.size, h.block⟩
theorem Rnd.keeps (h : Rnd L X W W1) : KeepsFrom L W W1 := ⟨h.size, h.non⟩
theorem Rnd.of_below (h : Below W.heap.size W W1) (hL : L ≤ W.heap.size) : Rnd L X W W1 :=
  ⟨h.os, h.tape, h.output, h.size, fun k hk _ => h.block k (by omega), fun k o _ ho _ => (h.block k (Array.getElem?_eq_some_iff.1 ho).1).trans ho⟩
theorem Rnd.set {g i : Nat} {cs : Array Value} {t : TypeId} (hb : W.heap[g]? = some (.cells cs t (0, 0))) (hx : X g) (u : Value) : Rnd L X W (W.setCell ⟨g, i, none⟩ u) :=
  ⟨rfl, rfl, rfl, by simp, fun k _ hk => Below.heap_setCell _ _ _ _ (fun e => hk (by subst e; exact hx)), fun k o _ ho hc => by
    by_cases e : k = g
    · subst e; rw [hb] at ho; cases ho; cases hc
    · rw [Below.heap_setCell _ _ _ _ e]; exact ho⟩
/-- An append: the row's own block (if there is one) is cells laid since the loop began. -/
theorem Rnd.grown {row : Option Nat} (hL : L ≤ W.heap.size) (hg : W.grownBy W1 row) (hr : ∀ k, row = some k → L ≤ k ∧ ∃ cs t, W.heap[k]? = some (.cells cs t (0, 0))) : Rnd L X W W1 :=
  ⟨hg.os, hg.tape, hg.output, hg.size, fun k hk _ => hg.block k (by omega) (fun e => by have := (hr k e.symm).1; omega), fun k o _ ho hc => by
    refine (hg.block k (Array.getElem?_eq_some_iff.1 ho).1 (fun e => ?_)).trans ho
    obtain ⟨_, cs, t, h2⟩ := hr k e.symm
    rw [h2] at ho
    cases ho
    cases hc⟩
end
/-- How a round's body ends. -/
def RoundPost {α : Type} (L : Nat) (X : Nat → Prop) (I : List α → World → Prop) (Ix : Code → List α → World → Prop) (xs : List α) (W : World) : Exit → Act → World → Prop
  | .normal, _, W' => Rnd L X W W' ∧ I xs W'
  | .ret, _, W' => KeepsFrom L W W' ∧ Ix .ret xs W'
  | _, _, _ => False
def tmpsIn (tmps ps : Array Value) (qs : Array Tmp) : Array Value := (qs.zip ps).foldl (fun t (p, v) => t.setIfInBounds p v) tmps
/-- The law. sl: the slot of the loop's variable, boxed at type t. -/
theorem range_wp {α : Type} {P : Program} {g : Operand} {ps : Array Tmp} {assign body : Code} {Q : Exit → Act → World → Prop} {a : Act} {w : World} {gf : Nat} {lb : Array Value} (hg : a.eval g = .func (.func gf) #[] lb) (eg : ∀ args w, (callFunc gf args).run P w = .ok (.enter gf args) w)
    {encs : α → Array Value} {X : Nat → Prop} {S Sp : List α → Prop} {N : Nat} (hseq : SeqStopsK Fence.wide 8 P gf lb encs (KpX w.heap.size X) S Sp N w) (hps : ∀ x, (encs x).size = ps.size)
    (I : List α → World → Prop) (Ix : Code → List α → World → Prop) (hI : ∀ pre W W', Turn w.heap.size W W' → I pre W → I pre W') (hIx : ∀ c pre W W', Turn w.heap.size W W' → Ix c pre W → Ix c pre W') (h0 : I [] w) (hIs : ∀ pre W, I pre W → w.heap.size ≤ W.heap.size) (cs : α → Array Value) (t sl : Nat)
    (hassign : ∀ (l : Nat) (x : α) (W : World) (K : Act → World → Prop), K { tmps := (tmpsIn a.tmps (encs x) ps).setIfInBounds sl (.pointer (some ⟨W.heap.size, 0, none⟩)), defers := [] } (W.alloc (.cells (cs x) t)) →
      assign.wpIn (Fence.wide.inRound l) 7 P (Exit.then K (fun _ _ _ => False)) { tmps := tmpsIn a.tmps (encs x) ps, defers := [] } W)
    (hbody : ∀ (l : Nat) (pre : List α) (x : α) (b : Nat) (W : World), w.heap.size ≤ b → I pre W → W.heap[b]? = some (.cells (cs x) t (0, 0)) → w.heap.size ≤ W.heap.size → pre.length < N → body.wpIn (Fence.wide.inRound l) 7 P (RoundPost w.heap.size X I Ix (pre ++ [x]) W) { tmps := (tmpsIn a.tmps (encs x) ps).setIfInBounds sl (.pointer (some ⟨b, 0, none⟩)), defers := [] } W)
    (hdone : ∀ (D : Nat) (xs : List α) (W : World), w.heap.size ≤ D → S xs → I xs W → W.heap[D]? = some (.deferred (some [])) → Q .normal { a with defers := { target := .collected D, args := #[] } :: a.defers } W)
    (hstop : ∀ (D : Nat) (c : Code) (pre : List α) (W : World), w.heap.size ≤ D → Sp pre → Ix c pre W → W.heap[D]? = some (.deferred (some [])) → c.wp P Q { a with defers := { target := .collected D, args := #[] } :: a.defers } W) :
    (Code.rangeFunc g ps assign body).wp P Q a w := by
  refine (wpIn_wide (n := 9)).1 (wpIn_rangeFunc_ownH (gf := gf) (lb := lb) rfl (by omega) hg trivial eg hseq (fun h k => h.trans k) (fun W l o o' hl _ _ _ => KpX.putObj W l o' hl) (Below.refl _ _) hps I
    (fun c pre W => (c = .ret ∧ Ix .ret pre W)) (fun pre W W' row hs hgr hr => hI pre W W' (Turn.of hgr hr) hs) (fun c pre W W' row hs hgr hr => ⟨hs.1, hIx .ret pre W W' (Turn.of hgr hr) hs.2⟩) h0
    (fun x a' W => ∃ b, w.heap.size ≤ b ∧ W.heap[b]? = some (.cells (cs x) t (0, 0)) ∧ a' = { tmps := (tmpsIn a.tmps (encs x) ps).setIfInBounds sl (.pointer (some ⟨b, 0, none⟩)), defers := [] })
    (fun x a' _ W W' row hs hgr hr => by obtain ⟨b, h1, h2, h3⟩ := hs; exact ⟨b, h1, (Turn.of hgr hr).blk h2, h3⟩) ?_ ?_ hdone ?_)
  · intro l pre x W K hi hK
    refine hassign l x W K ?_
    have hlt := hIs pre W hi
    exact hK _ _ ((KeepsOthers.alloc _ _).from _) (KpX.of_below ((Below.refl _ W).alloc (Nat.le_refl _) _) hlt) (hI _ _ _ (Turn.alloc _ _ _) hi) ⟨W.heap.size, hlt, blk_new W _, rfl⟩
  · rintro l pre x a' W hl ⟨r, hr⟩ hi ⟨b, h1, h2, rfl⟩ hlen
    refine wpIn_mono (hbody l pre x b W h1 hi h2 (by have := (Array.getElem?_eq_some_iff.1 h2).1; omega) hlen) ?_
    intro e a2 W' hp
    cases e with
    | normal => exact ⟨hp.1.keeps, hp.1.kp, hp.2⟩
    | ret => exact ⟨hp.1, rfl, hp.2⟩
    | exit id => exact hp.elim
    | goto t => exact hp.elim
    | panic ch => exact hp.elim
    | outgrown => exact hp.elim
  · intro D c pre W hD hS hi hK
    exact wpIn_wide.2 (hstop D c pre W hD hS (by obtain ⟨rfl, h⟩ := hi; exact h) hK)
end Go.Proofs.Ytpplnhefpcofoaa.PDeltaJoin
