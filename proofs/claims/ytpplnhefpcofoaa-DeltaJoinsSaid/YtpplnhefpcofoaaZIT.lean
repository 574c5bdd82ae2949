/- The iterators, as a range over a function wants them. -/
import Derived.Test.YtpplnhefpcofoaaZIC
namespace Go.Proofs.Ytpplnhefpcofoaa.PDeltaJoin
open Go.RowKit Go.Proofs.YtpplnhefpcofoaaW.PrintWords Go.Proofs.YtpplnhefpcofoaaW.PrintLast
set_option linter.unusedVariables false
set_option linter.unusedSimpArgs false
/-- The same for a range over the closure. -/
theorem stops51 {w0 w : World} (a b : List S63) (A B : Option Addr) (ca cb : Nat) (hA : Kd.C k63 w0 A a.length a) (hB : Kd.C k63 w0 B b.length b) (hW : Below w0.heap.size w0 w) (b1 b2 b3 : Nat) (X : Nat → Prop)
    (h1 : Boxed w b1 22 (.slice A a.length ca)) (h2 : Boxed w b2 22 (.slice B b.length cb)) (h3 : Boxed w b3 69 (.func (.func 36) #[] #[])) (hx : ¬ X b1 ∧ ¬ X b2 ∧ ¬ X b3) (hX : ∀ k, X k → w0.heap.size ≤ k) :
    SeqStopsK Fence.wide 8 Try.prog 51 #[.pointer (some ⟨b1, 0, none⟩), .pointer (some ⟨b2, 0, none⟩), .pointer (some ⟨b3, 0, none⟩)] (fun x : {x : PVC w0 // x.p ∈ mrgC a b} => encC x.1) (KpX w.heap.size X) (fun xs => xs.map (fun x => x.1.p) = mrgC a b) (fun _ => True) (mrgC a b).length w := by
  intro l J Jx W hWw hJ hJx hY h0
  refine (free_wide.calls (iter51 a b A B ca cb hA hB W (hW.trans (hWw.mono hW.size)) b1 b2 b3 w.heap.size l 7 X (fun xs V => ∃ ys : List {x : PVC w0 // x.p ∈ mrgC a b}, ys.map Subtype.val = xs ∧ J ys V) (fun xs V => ∃ ys : List {x : PVC w0 // x.p ∈ mrgC a b}, ys.map Subtype.val = xs ∧ Jx ys V)
    (fun xs V V' row hs hg hr => by obtain ⟨ys, h1, h2⟩ := hs; exact ⟨ys, h1, hJ ys V V' row h2 hg hr⟩) (Boxed.below' h1 hWw) (Boxed.below' h2 hWw) (Boxed.below' h3 hWw) ⟨h1.lt, hx.1, h2.lt, hx.2.1, h3.lt, hx.2.2⟩ hWw.size hW.size hX ?_ ⟨[], rfl, h0⟩)).mono ?_
  · rintro pre x W1 ⟨ys, rfl, hj⟩ ⟨rest, hr⟩
    have hm : x.p ∈ mrgC a b := by rw [← hr]; simp
    have hlen : ys.length < (mrgC a b).length := by have := congrArg List.length hr; simp at this; omega
    obtain ⟨fn, tmps, assign, body, hy, hR⟩ := hY ys ⟨x, hm⟩ W1 hj hlen
    refine ⟨fn, tmps, assign, body, hy, hR.mono ?_⟩
    rintro e W' (⟨he, hj', hk⟩ | ⟨he, hj'⟩)
    · exact .inl ⟨he, ⟨ys ++ [⟨x, hm⟩], by simp, hj'⟩, hk⟩
    · exact .inr ⟨he, ⟨ys ++ [⟨x, hm⟩], by simp, hj'⟩⟩
  · rintro e W' ⟨he, ⟨xs, hxs, ys, rfl, hj⟩ | ⟨pre, _, ys, rfl, hj⟩⟩
    · exact ⟨he, .inl ⟨ys, by rw [List.map_map] at hxs; exact hxs, hj⟩⟩
    · exact ⟨he, .inr ⟨ys, trivial, hj⟩⟩
end Go.Proofs.Ytpplnhefpcofoaa.PDeltaJoin
