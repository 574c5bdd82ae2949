/- Two results, both boxed: a struct and a number. Maps in rounds. -/
import Derived.Test.YtpplnhefpcofoaaZRH
import Derived.Laws.Rows
namespace Go.Proofs.Ytpplnhefpcofoaa.PDeltaJoin
open Go.RowKit Go.Proofs.YtpplnhefpcofoaaW.PrintWords Go.Proofs.YtpplnhefpcofoaaW.PrintLast
set_option linter.unusedVariables false
set_option linter.unusedSimpArgs false
theorem run_loadVar_one {P : Program} (w : World) (g : Nat) (t ty : TypeId) (v : Value) (k : IntKind) (hu : P.underlying ty = some (.int k)) (hg : w.heap[g]? = some (.cells #[v] t (0, 0))) :
    (loadVar ty ⟨g, 0, none⟩).run P w = .ok v w := by
  have hc : w.cell? ⟨g, 0, none⟩ = some v := blk_at hg 0 rfl
  unfold loadVar
  simp [isAgg, Sem.run_bind, run_underlying hu, go_sem, hc]
theorem results_two {P : Program} {fn : Func} {tmps : Array Value} {w : World} {a b ta tb : Nat} {g h : Nat} {t t2 : TypeId} {cs : Array Value} {v : Value} {fr : Nat × Nat} {d : TypeDesc} {k : IntKind} (hr : fn.results = #[.cell a ta, .cell b tb])
    (pa : tmps.getD a undef = .pointer (some ⟨g, 0, none⟩)) (pb : tmps.getD b undef = .pointer (some ⟨h, 0, none⟩)) (hg : w.heap[g]? = some (.cells cs t fr)) (hh : w.heap[h]? = some (.cells #[v] t2 (0, 0)))
    (hu : P.underlying ta = some d) (hd : (match d with | .struct _ | .array _ _ => true | _ => false) = true) (hi : (P.info? ta).map (·.size) = some cs.size) (hk : P.underlying tb = some (.int k)) : (results fn tmps).run P w = .ok (.tuple #[.agg cs, v]) w := by
  unfold results
  rw [hr]
  have pa' : tmps[a]?.getD undef = .pointer (some ⟨g, 0, none⟩) := by rw [← pa]; simp
  have pb' : tmps[b]?.getD undef = .pointer (some ⟨h, 0, none⟩) := by rw [← pb]; simp
  simp [pa', pb', asAddr, run_loadVar_row w g t ta cs fr d hg hu hd hi, run_loadVar_one w h t2 tb v k hk hh]
theorem Rnd.map {L : Nat} {X : Nat → Prop} {W W1 : World} {b : Nat} (hg : W.grownBy W1 (some b)) (hx : X b) (hb : b < L) (hL : L ≤ W.heap.size) : Rnd L X W W1 :=
  ⟨hg.os, hg.tape, hg.output, hg.size, fun k hk hxk => by
    exact hg.block k (by omega) (fun e => by injection e with e; exact hxk (by rw [e]; exact hx)), fun k o hk ho _ => (hg.block k (Array.getElem?_eq_some_iff.1 ho).1 (fun e => by injection e with e; omega)).trans ho⟩
end Go.Proofs.Ytpplnhefpcofoaa.PDeltaJoin
