/- delta.Apply. -/
import Derived.Test.YtpplnhefpcofoaaZRG
import Derived.Test.YtpplnhefpcofoaaZVA
import Derived.Test.YtpplnhefpcofoaaZCD
import Derived.Test.YtpplnhefpcofoaaZCE
namespace Go.Proofs.Ytpplnhefpcofoaa.PDeltaJoin
open Go.RowKit Go.Proofs.YtpplnhefpcofoaaW.PrintWords Go.Proofs.YtpplnhefpcofoaaW.PrintLast
set_option linter.unusedVariables false
set_option linter.unusedSimpArgs false
/-- All but block bt, and but blocks of type t from L on, lies as it lay. -/
structure Oth (L bt t : Nat) (W W' : World) : Prop where
  os : W'.os = W.os
  tape : W'.tape = W.tape
  output : W'.output = W.output
  size : W.heap.size ≤ W'.heap.size
  same : ∀ (k : Nat) (o : Obj), W.heap[k]? = some o → k ≠ bt → (k < L ∨ ∀ cs, o ≠ .cells cs t (0, 0)) → W'.heap[k]? = some o
section
variable {L bt t : Nat} {W W1 W2 : World}
theorem Oth.trans (h : Oth L bt t W W1) (k : Oth L bt t W1 W2) : Oth L bt t W W2 :=
  ⟨k.os.trans h.os, k.tape.trans h.tape, k.output.trans h.output, Nat.le_trans h.size k.size, fun i o hi hb ho => k.same i o (h.same i o hi hb ho) hb ho⟩
theorem Oth.of_below (h : Below W.heap.size W W1) : Oth L bt t W W1 := ⟨h.os, h.tape, h.output, h.size, fun k o hk _ _ => (h.block k (Array.getElem?_eq_some_iff.1 hk).1).trans hk⟩
theorem Oth.set (i : Nat) (u : Value) : Oth L bt t W (W.setCell ⟨bt, i, none⟩ u) := ⟨rfl, rfl, rfl, by simp, fun k o hk hb _ => (Below.heap_setCell _ _ _ _ hb).trans hk⟩
theorem Oth.grown {row : Option Nat} (hg : W.grownBy W1 row) (hr : ∀ k, row = some k → L ≤ k ∧ ∃ cs, W.heap[k]? = some (.cells cs t (0, 0))) : Oth L bt t W W1 :=
  ⟨hg.os, hg.tape, hg.output, hg.size, fun k o hk _ ho => (hg.block k (Array.getElem?_eq_some_iff.1 hk).1 (fun e => by
    obtain ⟨h1, cs, h2⟩ := hr k e.symm
    rcases ho with ho | ho
    · omega
    · rw [h2] at hk; cases hk; exact ho cs rfl)).trans hk⟩
theorem Oth.rnd {X : Nat → Prop} (h : Oth L bt t W W1) (hx : X bt) (hL : L ≤ W.heap.size) {cs : Array Value} {t' : TypeId} {fr : Nat × Nat} (hb : W.heap[bt]? = some (.cells cs t' fr)) : Rnd L X W W1 :=
  ⟨h.os, h.tape, h.output, h.size, fun k hk hxk => by
    have hlt : k < W.heap.size := by omega
    rw [h.same k W.heap[k] (Array.getElem?_eq_getElem hlt) (fun e => hxk (by rw [e]; exact hx)) (.inl hk)]
    exact (Array.getElem?_eq_getElem hlt).symm, fun k o _ hk hc => h.same k o hk (fun e => by rw [e, hb] at hk; cases hk; cases hc) (.inr (fun cs e => by rw [e] at hc; cases hc))⟩
theorem Oth.blk (h : Oth L bt t W W1) {k : Nat} {cs : Array Value} {t' : TypeId} (hk : W.heap[k]? = some (.cells cs t' (0, 0))) (hb : k ≠ bt) (ht : t' ≠ t) : W1.heap[k]? = some (.cells cs t' (0, 0)) :=
  h.same k _ hk hb (.inr (fun cs' e => by cases e; exact ht rfl))
theorem Oth.below {w0 : World} (h : Oth L bt t W W1) (hb : Below w0.heap.size w0 W) (h0 : w0.heap.size ≤ L) (hbt : w0.heap.size ≤ bt) : Below w0.heap.size w0 W1 :=
  ⟨h.os.trans hb.os, h.tape.trans hb.tape, h.output.trans hb.output, Nat.le_trans hb.size h.size, fun k hk => by
    have hlt : k < W.heap.size := Nat.lt_of_lt_of_le hk hb.size
    rw [h.same k W.heap[k] (Array.getElem?_eq_getElem hlt) (by omega) (.inl (by omega)), ← hb.block k hk]
    exact (Array.getElem?_eq_getElem hlt).symm⟩
theorem Oth.map {P : Program} {k e : Nat} {b n : Nat} {f : ByteArray → Int} (h : Oth L bt t W W1) (hm : MapS P k e W b n f) (hL : b < L) (hb : b ≠ bt) : MapS P k e W1 b n f := by
  have hlt := hm.lt
  exact hm.move (by rw [h.same b W.heap[b] (Array.getElem?_eq_getElem hlt) hb (.inl hL)]; exact (Array.getElem?_eq_getElem hlt).symm)
/-- Rows of other types lie on. -/
theorem Oth.row {α : Type} {d : Kd α} {e base : Nat} {ok : Nat → Prop} {v : Value} {xs : List α} (h : Oth L bt t W W1) (hr : d.R e W base ok v xs) (ht : ∀ q, q ∈ e :: d.E → q ≠ t) {cs : Array Value} {tb : TypeId} (hb : W.heap[bt]? = some (.cells cs tb (0, 0))) (htb : ∀ q, q ∈ e :: d.E → q ≠ tb) : d.R e W1 base ok v xs := by
  refine Kd.R_mono (Kd.R_move (Kd.R_bound hr) (fun k hk => ?_)) (fun k hk => hk.1)
  obtain ⟨_, _, hlt, q, hq, cells, hc⟩ := hk
  rw [hc]
  exact h.blk hc (fun e' => by rw [e', hb] at hc; cases hc; exact htb _ hq rfl) (ht q hq)
end
/-- The pair, boxed. -/
def boxC {w0 : World} (x : PVC w0) : Array Value := #[.string x.p.l.f0, .slice x.la x.p.l.f1.length x.lc, .string x.p.r.f0, .slice x.ra x.p.r.f1.length x.rc, .bool x.p.isL, .bool x.p.isR]
theorem mrgC_le : ∀ (N : Nat) (a b : List S63), a.length + b.length ≤ N → (mrgC a b).length ≤ a.length + b.length
  | _, [], [], _ => by rw [mrgC_nil]; simp
  | 0, _ :: _, _, h => by simp at h
  | 0, [], _ :: _, h => by simp at h
  | N + 1, x :: a, [], h => by rw [mrgC_l]; have := mrgC_le N a [] (by simp at h ⊢; omega); simp at this ⊢; omega
  | N + 1, [], y :: b, h => by rw [mrgC_r]; have := mrgC_le N [] b (by simp at h ⊢; omega); simp at this ⊢; omega
  | N + 1, x :: a, y :: b, h => by
    rw [mrgC]
    simp only [List.length_cons] at h ⊢
    split
    · split
      · have := mrgC_le N a b (by omega); simp only [List.length_cons]; omega
      · have := mrgC_le N a (y :: b) (by simp only [List.length_cons]; omega); simp only [List.length_cons] at this ⊢; omega
    · have := mrgC_le N (x :: a) b (by simp only [List.length_cons]; omega); simp only [List.length_cons] at this ⊢; omega
/-- What stands in the merged list came of the two. -/
theorem mrgC_mem : ∀ (N : Nat) (a b : List S63), a.length + b.length ≤ N → ∀ p ∈ mrgC a b, (p.isL = true → p.l ∈ a) ∧ (p.isR = true → p.r ∈ b) ∧ (p.isL = false → p.isR = true)
  | _, [], [], _, p, hp => by rw [mrgC_nil] at hp; cases hp
  | 0, _ :: _, _, h, _, _ => by simp at h
  | 0, [], _ :: _, h, _, _ => by simp at h
  | N + 1, x :: a, [], h, p, hp => by
    rw [mrgC_l] at hp
    rcases List.mem_cons.1 hp with rfl | hp
    · simp
    · have := mrgC_mem N a [] (by simp at h ⊢; omega) p hp
      exact ⟨fun e => List.mem_cons_of_mem _ (this.1 e), this.2⟩
  | N + 1, [], y :: b, h, p, hp => by
    rw [mrgC_r] at hp
    rcases List.mem_cons.1 hp with rfl | hp
    · simp
    · have := mrgC_mem N [] b (by simp at h ⊢; omega) p hp
      exact ⟨this.1, fun e => List.mem_cons_of_mem _ (this.2.1 e), this.2.2⟩
  | N + 1, x :: a, y :: b, h, p, hp => by
    rw [mrgC] at hp
    simp only [List.length_cons] at h
    split at hp
    · split at hp
      · rcases List.mem_cons.1 hp with rfl | hp
        · simp
        · have := mrgC_mem N a b (by omega) p hp
          exact ⟨fun e => List.mem_cons_of_mem _ (this.1 e), fun e => List.mem_cons_of_mem _ (this.2.1 e), this.2.2⟩
      · rcases List.mem_cons.1 hp with rfl | hp
        · simp
        · have := mrgC_mem N a (y :: b) (by simp only [List.length_cons]; omega) p hp
          exact ⟨fun e => List.mem_cons_of_mem _ (this.1 e), this.2⟩
    · rcases List.mem_cons.1 hp with rfl | hp
      · simp
      · have := mrgC_mem N (x :: a) b (by simp only [List.length_cons]; omega) p hp
        exact ⟨this.1, fun e => List.mem_cons_of_mem _ (this.2.1 e), this.2.2⟩
end Go.Proofs.Ytpplnhefpcofoaa.PDeltaJoin

namespace Go.Proofs.Ytpplnhefpcofoaa.PDeltaJoin
open Go.RowKit Go.Proofs.YtpplnhefpcofoaaW.PrintWords Go.Proofs.YtpplnhefpcofoaaW.PrintLast
set_option linter.unusedVariables false
set_option linter.unusedSimpArgs false

def appKeep (gone : List ByteArray) (p : MPC) : Option S63 := if p.isR = true then some p.r else if fG gone p.l.f0 = 1 then none else some p.l
def appCells (gone : List ByteArray) (ps : List MPC) : List S63 := ps.filterMap (appKeep gone)
def appFound (gone : List ByteArray) (ps : List MPC) : Nat := (ps.filter fun p => !p.isR && decide (fG gone p.l.f0 = 1)).length
/-- What Apply answers: the state's number and cells, the error. -/
def applyP (num : Int) (cells : List S63) (dnum : Int) (set : List S63) (gone : List ByteArray) : Int × List S63 × Int :=
  if chkS num cells ≠ 0 then (0, [], chkS num cells) else if chkD dnum set gone ≠ 0 then (0, [], chkD dnum set gone)
  else if appFound gone (mrgC cells set) < gone.length then (0, [], 110) else if 64 < (appCells gone (mrgC cells set)).length then (0, [], 111) else (dnum, appCells gone (mrgC cells set), 0)
theorem chkGone_keys (f : ByteArray → Int) : ∀ (l : List ByteArray) (p : Option ByteArray), chkGone f p l = 0 → ∀ k ∈ l, k.size ≤ 12
  | [], _, _, k, hk => by cases hk
  | d :: ds, p, h, k, hk => by
    rw [chkGone] at h
    split at h
    · simp at h
    · split at h
      · simp at h
      · rcases List.mem_cons.1 hk with rfl | hk
        · omega
        · exact chkGone_keys f ds _ h k hk
theorem chkD_ok {num : Int} {set : List S63} {gone : List ByteArray} (h : chkD num set gone = 0) : chkS num set = 0 ∧ gone.length ≤ 64 ∧ ∀ k ∈ gone, k.size ≤ 12 := by
  unfold chkD at h
  split at h
  · rename_i h1; exact absurd h h1
  · rename_i h1
    split at h
    · simp at h
    · exact ⟨by simpa using h1, by omega, chkGone_keys _ _ _ h⟩
/-- What has come, plainly. -/
def plC {w0 : World} {a b : List S63} (xs : List {x : PVC w0 // x.p ∈ mrgC a b}) : List MPC := xs.map (fun x => x.1.p)
theorem plC_snoc {w0 : World} {a b : List S63} (xs : List {x : PVC w0 // x.p ∈ mrgC a b}) (x : {x : PVC w0 // x.p ∈ mrgC a b}) : plC (xs ++ [x]) = plC xs ++ [x.1.p] := by unfold plC; rw [List.map_append]; rfl
theorem tmpsIn_one (T : Array Value) (v : Value) (s : Tmp) : tmpsIn T #[v] #[s] = T.setIfInBounds s v := by simp [tmpsIn]
theorem bodyD_one {P : Program} {fn : Func} {R : Ending → World → Prop} {a : Act} {w : World} {D : Nat} (hd : a.defers = [{ target := .collected D, args := #[] }]) (hK : w.heap[D]? = some (.deferred (some []))) (h : bodyPost P fn R .ret { a with defers := [] } (w.putObj D (.deferred none))) : BodyD P fn R .ret a w := by
  obtain ⟨_, v, h1, h2⟩ := h
  exact ⟨[D], hd, hK, v, h1, h2⟩
/-- Between two rounds. -/
structure IApp (w : World) (L g1 g2 bt bf bm mb : Nat) (dnum : Int) (B1 : Array Value) (gone : List ByteArray) (xs : List MPC) (W : World) : Prop where
  hb : Below w.heap.size w W
  sz : L ≤ W.heap.size
  ht : ∃ vt, W.heap[bt]? = some (.cells #[.int .i64 dnum, vt] 24 (0, 0)) ∧ Kd.R k63 63 W L (fun _ => True) vt (appCells gone xs)
  hf : W.heap[bf]? = some (.cells #[.int .i64 (appFound gone xs : Nat)] 3 (0, 0))
  hm : W.heap[bm]? = some (.cells #[.map (some mb)] 65 (0, 0))
  mp : MapS Try.prog 9 3 W mb gone.length (fG gone)
  h1 : W.heap[g1]? = some (.cells B1 27 (0, 0))
  h2 : W.heap[g2]? = some (.cells #[.int .i64 0, .slice none 0 0] 24 (0, 0))
theorem IApp.turn {w : World} {L g1 g2 bt bf bm mb : Nat} {dnum : Int} {B1 : Array Value} {gone : List ByteArray} {xs : List MPC} {W W' : World} (hL : w.heap.size ≤ L) (hmb : mb < L) (ht : Turn L W W') (h : IApp w L g1 g2 bt bf bm mb dnum B1 gone xs W) : IApp w L g1 g2 bt bf bm mb dnum B1 gone xs W' := by
  obtain ⟨h1, h2, ⟨vt, h3, h4⟩, h5, h6, h7, h8, h9⟩ := h
  exact ⟨Below.turn h1 ht hL, Nat.le_trans h2 ht.size, ⟨vt, ht.blk h3, R_turn h4 ht⟩, ht.blk h5, ht.blk h6, h7.turn ht hmb, ht.blk h8, ht.blk h9⟩
end Go.Proofs.Ytpplnhefpcofoaa.PDeltaJoin
