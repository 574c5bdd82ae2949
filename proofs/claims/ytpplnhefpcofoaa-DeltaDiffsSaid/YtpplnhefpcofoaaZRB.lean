/- A region in a round of a range over a function, walked as anywhere; a function that holds such a range. -/
import Derived.OrdersIn
import Derived.Tactics
import Derived.TacticsIn
import Derived.OwnWalkIn
import Derived.WalkKit
import Derived.RangeFuncNested
import Derived.RangeFuncCalls
import Derived.RangeFuncBound
import Derived.RangeFuncLeaves
import Derived.Lib.Hide
import Derived.Test.YtpplnhefpcofoaaZWLast
namespace Go.Proofs.Ytpplnhefpcofoaa.PDeltaJoin
open Go.RowKit Go.Proofs.YtpplnhefpcofoaaW.PrintLast
set_option linter.unusedVariables false
/-- A fence that shuts nothing out. -/
def Free (F : Fence) : Prop := F.depth = none ∧ F.alive = false ∧ ∀ f, F.fn f
theorem free_wide : Free Fence.wide := ⟨rfl, rfl, fun _ => trivial⟩
theorem free_round (l : Nat) : Free (Fence.wide.inRound l) := ⟨rfl, rfl, fun _ => trivial⟩
theorem Free.fenced {F : Fence} (h : Free F) (P : Program) (m : Machine) : m.fenced P F := by
  intro g _
  exact ⟨fun h' => by rw [h.2.1] at h'; simp at h', Or.inl (h.2.2 _), fun f _ => h.2.2 f, fun d hd => by rw [h.1] at hd; simp at hd⟩
theorem Free.steps {F : Fence} (h : Free F) {P : Program} {m m' : Machine} (hs : Steps P m m') : StepsIn (Machine.fenced P F) P m m' := (StepsIn.of_steps hs).mono fun m _ => h.fenced P m
theorem Free.comes {F : Fence} (h : Free F) {P : Program} {m m' : Machine} {e : Ending} (hs : Comes P m m' e) : ComesIn (Machine.fenced P F) P m m' e := by
  cases e with
  | returned v => exact h.steps hs
  | panicked chain => exact h.steps hs
  | outgrown => exact hs
theorem Free.calls {F : Fence} (h : Free F) {n : Nat} {P : Program} {f : FuncId} {args : Array Value} {w : World} {R : Ending → World → Prop} (hc : Calls P f args w R) : CallsIn F n P f args w R :=
  ⟨h.2.2 f, fun cs _ => let ⟨e, w', fr, r, s, x⟩ := hc cs; ⟨e, w', fr, r, h.comes s, x⟩⟩
theorem Free.rows {F : Fence} (h : Free F) {n : Nat} {P : Program} {row : String} {args : Array Value} {w : World} {R : Value → World → Prop} (hc : Rows P row args w R) : RowsIn F n P row args w R :=
  fun c cs _ => let ⟨v, w', r, s⟩ := hc c cs; ⟨v, w', r, h.steps s⟩
/-- No operation defers. -/
def noDefer (ops : Array Oper) : Bool := ops.all fun o => match o.op with | .defer _ => false | _ => true
theorem noDefer_spec {ops : Array Oper} (h : noDefer ops = true) {i : Nat} {o : Oper} (hi : ops[i]? = some o) : ∀ c, o.op ≠ .defer c := by
  intro c hc
  have h1 := Array.all_eq_true_iff_forall_mem.1 h o (Array.mem_of_getElem? hi)
  simp [hc] at h1
section
variable {F : Fence} {P : Program} {ops : Array Oper} {Q : Exit → Act → World → Prop} {md : Region.Mode} {n : Nat}
theorem Oper.in_of_wp (hF : Free F) {o : Oper} {a : Act} {w : World} {K : Act → World → Prop} (hd : ∀ c, o.op ≠ .defer c) (h : o.wp P a w K Q) : o.wpIn F n P a w K Q := by
  refine ⟨fun _ _ => hF.2.2 _, ?_⟩
  rw [Oper.semAt_plain _ _ _ hd]
  unfold Oper.wp at h
  generalize (execOp a.eval o).run P w = r at *
  cases r with
  | ok x w' =>
    cases x <;> simp only [Oper.upon, Oper.uponIn] at h ⊢
    all_goals first
      | exact h
      | exact ⟨fun hh => by rw [hF.1] at hh; simp at hh, hF.calls h⟩
      | exact ⟨fun hh => by rw [hF.1] at hh; simp at hh, hF.rows h⟩
  | halt x w' => cases x <;> simp only [Oper.upon, Oper.uponIn] at h ⊢ <;> exact h
theorem wpOp_in (hF : Free F) (hd : noDefer ops = true) (hQ : ¬ LetsOut Q) {i : Nat} {K : Act → World → Prop} {a : Act} {w : World} (h : wpOp P ops Q i K a w) : wpOpIn F n P ops Q i K a w := by
  unfold wpOp at h
  unfold wpOpIn
  cases hi : ops[i]? with
  | none => simpa [hi] using h
  | some o =>
    simp only [hi] at h ⊢
    by_cases hw : Region.wanted o (yielded ops a.tmps) = true
    · rw [if_pos hw] at h ⊢
      rcases h with h | ⟨_, h⟩
      · exact Oper.in_of_wp hF (noDefer_spec hd hi) h
      · exact absurd h hQ
    · rw [if_neg hw] at h ⊢
      exact ⟨fun _ _ => hF.2.2 _, h⟩
theorem wpAny_in (hF : Free F) (hd : noDefer ops = true) (hQ : ¬ LetsOut Q) : ∀ (fuel : Nat) (listed : Array Bool) (a : Act) (w : World), wpAny P md ops Q fuel listed a w → wpAnyIn F n P md ops Q fuel listed a w
  | 0, _, _, _, h => h
  | fuel + 1, _, _, _, h => ⟨h.1, fun i hi => wpOp_in hF hd hQ (wpOp_mono (fun a' w' h' => wpAny_in hF hd hQ fuel _ a' w' h') (h.2 i hi))⟩
theorem wpList_in (hF : Free F) (hQ : ¬ LetsOut Q) : ∀ (l : List Oper), (l.all fun o => match o.op with | .defer _ => false | _ => true) = true → ∀ (a : Act) (w : World), wpList P ops Q l a w → wpListIn F n P ops Q l a w
  | [], _, _, _, h => h
  | o :: rest, hd, a, w, h => by
    simp only [List.all_cons, Bool.and_eq_true] at hd
    unfold wpList at h
    unfold wpListIn
    by_cases hw : Region.wanted o (yielded ops a.tmps) = true
    · rw [if_pos hw] at h ⊢
      rcases h with h | ⟨_, h⟩
      · exact Oper.in_of_wp hF (fun c hc => by have := hd.1; simp [hc] at this) (Oper.wp_mono (fun a' w' h' => wpList_in hF hQ rest hd.2 a' w' h') h)
      · exact absurd h hQ
    · rw [if_neg hw] at h ⊢
      exact ⟨fun _ _ => hF.2.2 _, wpList_in hF hQ rest hd.2 _ _ h⟩
/-- A drawn region in a round: the print's steps (take_, one_ ..) go on from here. -/
theorem startIn_ {S : World → Prop} {ds : List Nat} {id m : Nat} {a : Act} {w : World} (hF : Free F) (hd : noDefer ops = true) (hQ : ¬ LetsOut Q) (l : Array Bool) (hm : P.follows .mixedOrders = true) (hn : ops.size = m) (hl : Array.replicate m false = l) (hS : S w.drew)
    (h : S w.drew → wpAnyLast P .any ops Q S ds m l a w.drew) : (Code.region id ops true).wpIn F n P Q a w := by
  subst hn
  subst hl
  exact wpIn_region_any hm (wpAny_in hF hd hQ _ _ _ _ (wpAny_of_last _ _ _ _ (h hS)))
theorem regF_ {id : Nat} {a : Act} {w : World} (hF : Free F) (hd : noDefer ops = true) (hQ : ¬ LetsOut Q) (h : wpList P ops Q ops.toList a w) : (Code.region id ops false).wpIn F n P Q a w :=
  wpIn_region_list (wpList_in hF hQ _ (by unfold noDefer at hd; rw [← Array.all_toList] at hd; exact hd) _ _ h)
end
/-- How a function that holds ranges over functions ends: each loop's mark (Ds: the blocks for its rounds' deferred calls, the last loop's first) is taken in. -/
def Leave (P : Program) (fn : Func) (R : Ending → World → Prop) (tmps : Array Value) : List Nat → World → Prop
  | [], w => ∃ v, (results fn tmps).run P w = .ok v w ∧ R (.returned v) w
  | D :: Ds, w => w.heap[D]? = some (.deferred (some [])) ∧ Leave P fn R tmps Ds (w.putObj D (.deferred none))
def BodyD (P : Program) (fn : Func) (R : Ending → World → Prop) : Exit → Act → World → Prop
  | .normal, a, w => ∃ Ds : List Nat, a.defers = Ds.map (fun D => { target := .collected D, args := #[] }) ∧ Leave P fn R a.tmps Ds w
  | .ret, a, w => ∃ Ds : List Nat, a.defers = Ds.map (fun D => { target := .collected D, args := #[] }) ∧ Leave P fn R a.tmps Ds w
  | _, _, _ => False
theorem leaves_of {P : Program} {fn : Func} {R : Ending → World → Prop} {tmps : Array Value} : ∀ (Ds : List Nat) (w : World), Leave P fn R tmps Ds w → LeavesInM Fence.wide 9 P fn tmps R (Ds.map (fun D => { target := .collected D, args := #[] })) .returning w
  | [], w, h => h
  | D :: Ds, w, h => ⟨by simp, .inl ⟨D, _, rfl, run_takeDeferred h.1, leaves_of Ds _ h.2⟩⟩
theorem calls_of_marks {P : Program} {f : FuncId} {fn : Func} {c : Code} {args : Array Value} {w : World} {R : Ending → World → Prop} (hf : P.funcs[f]? = some fn) (hb : fn.body = some c)
    (h : c.wp P (BodyD P fn R) { tmps := args ++ Array.replicate (fn.ntmps - args.size) undef, defers := [] } w) : Calls P f args w R := by
  refine (callsIn_wide (n := 9)).1 (callsIn_of_wp_marks hf hb trivial (wpIn_mono (wpIn_wide.2 h) ?_) rfl)
  intro e a w' hq
  cases e with
  | normal => obtain ⟨Ds, hd, hl⟩ := hq; show LeavesInM _ _ _ _ _ _ _ _ _; rw [hd]; exact leaves_of _ _ hl
  | ret => obtain ⟨Ds, hd, hl⟩ := hq; show LeavesInM _ _ _ _ _ _ _ _ _; rw [hd]; exact leaves_of _ _ hl
  | exit id => exact hq.elim
  | goto t => exact hq.elim
  | panic ch => exact hq.elim
  | outgrown => exact hq.elim
/-- Ahead of the first loop: an ordinary end. -/
theorem bodyD_ret {P : Program} {fn : Func} {R : Ending → World → Prop} {a : Act} {w : World} (h : bodyPost P fn R .ret a w) : BodyD P fn R .ret a w := by
  obtain ⟨hd, v, h1, h2⟩ := h
  exact ⟨[], hd, v, h1, h2⟩
end Go.Proofs.Ytpplnhefpcofoaa.PDeltaJoin
