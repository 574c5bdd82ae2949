/- delta.Apply. -/
import Derived.Test.YtpplnhefpcofoaaZRH
namespace Go.Proofs.Ytpplnhefpcofoaa.PDeltaJoin
open Go.RowKit Go.Proofs.YtpplnhefpcofoaaW.PrintWords Go.Proofs.YtpplnhefpcofoaaW.PrintLast
set_option linter.unusedVariables false
set_option linter.unusedSimpArgs false

def appKeep (gone : List ByteArray) (p : MPC) : Option S63 := if p.isR = true then some p.r else if fG gone p.l.f0 = 1 then none else some p.l
def appCells (gone : List ByteArray) (ps : List MPC) : List S63 := ps.filterMap (appKeep gone)
def appFound (gone : List ByteArray) (ps : List MPC) : Nat := (ps.filter fun p => !p.isR && decide (fG gone p.l.f0 = 1)).length
theorem chkGone_keys (f : ByteArray → Int) : ∀ (l : List ByteArray) (p : Option ByteArray), chkGone f p l = 0 → ∀ k ∈ l, k.size ≤ 12
  | [], _, _, k, hk => by cases hk
  | d :: ds, p, h, k, hk => by
    rw [chkGone] at h
    split at h
    · simp at h
    · split at h
      · simp at h
      · rcases List.mem_cons.1 hk with rfl | hk
        · omega
        · exact chkGone_keys f ds _ h k hk
theorem chkD_ok {num : Int} {set : List S63} {gone : List ByteArray} (h : chkD num set gone = 0) : chkS num set = 0 ∧ gone.length ≤ 64 ∧ ∀ k ∈ gone, k.size ≤ 12 := by
  unfold chkD at h
  split at h
  · rename_i h1; exact absurd h h1
  · rename_i h1
    split at h
    · simp at h
    · exact ⟨by simpa using h1, by omega, chkGone_keys _ _ _ h⟩
/-- What has come, plainly. -/
def plC {w0 : World} {a b : List S63} (xs : List {x : PVC w0 // x.p ∈ mrgC a b}) : List MPC := xs.map (fun x => x.1.p)
theorem plC_snoc {w0 : World} {a b : List S63} (xs : List {x : PVC w0 // x.p ∈ mrgC a b}) (x : {x : PVC w0 // x.p ∈ mrgC a b}) : plC (xs ++ [x]) = plC xs ++ [x.1.p] := by unfold plC; rw [List.map_append]; rfl
theorem tmpsIn_one (T : Array Value) (v : Value) (s : Tmp) : tmpsIn T #[v] #[s] = T.setIfInBounds s v := by simp [tmpsIn]
theorem bodyD_one {P : Program} {fn : Func} {R : Ending → World → Prop} {a : Act} {w : World} {D : Nat} (hd : a.defers = [{ target := .collected D, args := #[] }]) (hK : w.heap[D]? = some (.deferred (some []))) (h : bodyPost P fn R .ret { a with defers := [] } (w.putObj D (.deferred none))) : BodyD P fn R .ret a w := by
  obtain ⟨_, v, h1, h2⟩ := h
  exact ⟨[D], hd, hK, v, h1, h2⟩
/-- Between two rounds. -/
structure IApp (w : World) (L g1 g2 bt bf bm mb : Nat) (dnum : Int) (B1 : Array Value) (gone : List ByteArray) (xs : List MPC) (W : World) : Prop where
  hb : Below w.heap.size w W
  sz : L ≤ W.heap.size
  ht : ∃ vt, W.heap[bt]? = some (.cells #[.int .i64 dnum, vt] 24 (0, 0)) ∧ Kd.R k63 63 W L (fun _ => True) vt (appCells gone xs)
  hf : W.heap[bf]? = some (.cells #[.int .i64 (appFound gone xs : Nat)] 3 (0, 0))
  hm : W.heap[bm]? = some (.cells #[.map (some mb)] 65 (0, 0))
  mp : MapS Try.prog 9 3 W mb gone.length (fG gone)
  h1 : W.heap[g1]? = some (.cells B1 27 (0, 0))
  h2 : W.heap[g2]? = some (.cells #[.int .i64 0, .slice none 0 0] 24 (0, 0))
theorem IApp.turn {w : World} {L g1 g2 bt bf bm mb : Nat} {dnum : Int} {B1 : Array Value} {gone : List ByteArray} {xs : List MPC} {W W' : World} (hL : w.heap.size ≤ L) (hmb : mb < L) (ht : Turn L W W') (h : IApp w L g1 g2 bt bf bm mb dnum B1 gone xs W) : IApp w L g1 g2 bt bf bm mb dnum B1 gone xs W' := by
  obtain ⟨h1, h2, ⟨vt, h3, h4⟩, h5, h6, h7, h8, h9⟩ := h
  exact ⟨Below.turn h1 ht hL, Nat.le_trans h2 ht.size, ⟨vt, ht.blk h3, R_turn h4 ht⟩, ht.blk h5, ht.blk h6, h7.turn ht hmb, ht.blk h8, ht.blk h9⟩
end Go.Proofs.Ytpplnhefpcofoaa.PDeltaJoin
