/- What a state's rows hold, opened: with whole numbers in range. -/
import Derived.Test.YtpplnhefpcofoaaZSB
import Derived.Deep.Slices
import Derived.SizedLaws
import Derived.Test.YtpplnhefpcofoaaZQV
namespace Go.Proofs.Ytpplnhefpcofoaa.PDeltaJoin
open Go.RowKit Go.Proofs.YtpplnhefpcofoaaW.PrintWords Go.Proofs.YtpplnhefpcofoaaW.PrintLast
set_option linter.unusedVariables false
set_option linter.unusedSimpArgs false
section
variable {H : Type} {enc : TypeId × Value → H} {W : World} {base : Nat} {spare : Nat → Bool} {held : Bool}
def Small (t : TypeId) (d : DataW H) : Prop := ∀ n ∈ DataW.weights Try.prog t d, n ≤ reachBytes
theorem weights_all {e : TypeId} {l : List (DataW H)} {d : DataW H} (h : d ∈ l) {n : Nat} (hn : n ∈ DataW.weights Try.prog e d) : n ∈ DataW.weightsAll Try.prog e l := by
  induction l with
  | nil => cases h
  | cons a l ih =>
    rw [DataW.weightsAll, List.mem_append]
    rcases List.mem_cons.1 h with rfl | h
    · exact .inl hn
    · exact .inr (ih h)
theorem op_slice {α : Type} [Inhabited α] {t e B fuel : Nat} {d : Kd α} {Q : α → Prop} (ht : Try.prog.underlying t = some (.slice e)) (hc : Try.prog.cellsOf e = d.sz) (hB : Try.prog.bytesOf e = B)
    (elem : ∀ n, n < fuel → ∀ cs x, DataW.trod enc Try.prog W base spare held n e cs = some x → Small e x.1 → ∃ y, d.K W y cs ∧ Q y)
    {cs : List Value} {x : DataW H × List MemPlace} (h : DataW.trod enc Try.prog W base spare held fuel t cs = some x) (hs : Small t x.1) :
    ∃ A c, ∃ xs : List α, cs = [.slice A xs.length c] ∧ xs.length ≤ c ∧ d.C W A xs.length xs ∧ (∀ y ∈ xs, Q y) ∧ xs.length * B ≤ reachBytes := by
  rcases DataW.trod_slice ht h with ⟨rfl, rfl⟩ | ⟨a, len, cap, elems, rest, n, rfl, rfl, rfl, hb, hl, hm, hlen, hel, hsp, hns⟩
  · exact ⟨none, 0, [], rfl, Nat.le_refl _, ⟨rfl, by simp, fun h => absurd h (Nat.lt_irrefl 0)⟩, fun y hy => (by cases hy), by simp⟩
  · have hw : ∀ d ∈ elems.map (·.1), Small e d := fun d hd m hm => hs m (by
      simp only [DataW.weights, ht]
      exact List.mem_cons_of_mem _ (List.mem_append_left _ (weights_all hd hm)))
    have hwt : len * B ≤ reachBytes := by
      have := hs ((elems.map (·.1)).length * Try.prog.bytesOf e + (rest.map (·.1)).length * Try.prog.bytesOf e) (by
        simp only [DataW.weights, ht, Nat.add_mul]
        exact List.mem_cons_self)
      rw [List.length_map, hlen, hB] at this
      omega
    obtain ⟨f, hf⟩ := Deep.choose_lt (α := α) (n := len) (p := fun i y => ∃ cs', W.cells? base (a.add (i * Try.prog.cellsOf e)) (Try.prog.cellsOf e) = some cs' ∧ d.K W y cs' ∧ Q y) (fun i hi => by
      have h1 := hel i hi
      have hi' : i < elems.length := by omega
      rw [List.getElem?_eq_getElem hi'] at h1
      obtain ⟨cs', h2, h3⟩ := Option.bind_eq_some_iff.1 h1
      obtain ⟨y, hy, hq⟩ := elem n (Nat.lt_succ_self n) cs' _ h3 (hw _ (List.mem_map_of_mem (List.getElem_mem hi')))
      exact ⟨y, cs', h2, hy, hq⟩)
    have hxl : ((List.range len).map f).length = len := by simp
    refine ⟨some a, cap, (List.range len).map f, by rw [hxl], by rw [hxl]; exact hl, ?_, ?_, by rw [hxl]; exact hwt⟩
    · rw [hxl]
      refine ⟨hxl, Nat.le_trans (Nat.le_trans hl hm) (by decide), fun _ => ⟨a, rfl, fun j p hp => ?_⟩⟩
      have hj : j < len := by
        have := (List.getElem?_eq_some_iff.1 hp).1
        rw [hxl] at this
        exact this
      obtain ⟨cs', h1, h2, _⟩ := hf j hj
      have hpj : f j = p := by
        rw [List.getElem?_map, List.getElem?_range hj] at hp
        simpa using hp
      rw [hpj] at h2
      rw [hc] at h1
      obtain ⟨_, h3, h4⟩ := World.cells?_some h1
      refine ⟨cs', h3, h2, fun i u hu => ?_⟩
      have hi : i < d.sz := by rw [← h3]; exact (List.getElem?_eq_some_iff.1 hu).1
      rw [← Deep.add_add, h4 i hi, hu]
    · intro y hy
      obtain ⟨j, hj, rfl⟩ := List.mem_map.1 hy
      obtain ⟨_, _, _, hq⟩ := hf j (List.mem_range.1 hj)
      exact hq
theorem cellsOf3 : Try.prog.cellsOf 3 = 1 := by kernel_rfl
theorem cellsOf2 : Try.prog.cellsOf 2 = 1 := by kernel_rfl
theorem cellsOf9 : Try.prog.cellsOf 9 = 1 := by kernel_rfl
theorem cellsOf60 : Try.prog.cellsOf 60 = 1 := by kernel_rfl
theorem cellsOf87 : Try.prog.cellsOf 87 = 4 := by kernel_rfl
theorem cellsOf63 : Try.prog.cellsOf 63 = 2 := by kernel_rfl
instance : Inhabited S87 := ⟨⟨0, 0, ⟨#[]⟩, []⟩⟩
instance : Inhabited S63 := ⟨⟨⟨#[]⟩, []⟩⟩
theorem cellsOf22 : Try.prog.cellsOf 22 = 1 := by kernel_rfl
theorem cellsOf24 : Try.prog.cellsOf 24 = 2 := by kernel_rfl
instance : Inhabited S24 := ⟨⟨0, []⟩⟩
instance : Inhabited S27 := ⟨⟨0, [], []⟩⟩
instance : Inhabited ByteArray := ⟨⟨#[]⟩⟩
end
end Go.Proofs.Ytpplnhefpcofoaa.PDeltaJoin

namespace Go.Proofs.Ytpplnhefpcofoaa.PDeltaJoin
open Go.RowKit Go.Proofs.YtpplnhefpcofoaaW.PrintWords Go.Proofs.YtpplnhefpcofoaaW.PrintLast
set_option linter.unusedVariables false
set_option linter.unusedSimpArgs false
section
variable {H : Type} {enc : TypeId × Value → H} {W : World} {base : Nat} {spare : Nat → Bool} {held : Bool}
theorem in64_wf {n : Int} (h : (Lit.int .i64 n).wf = true) : In64 n := by
  simp only [Lit.wf, Bool.and_eq_true, decide_eq_true_eq] at h
  unfold In64
  have e1 : IntKind.min .i64 = -9223372036854775808 := by decide
  have e2 : IntKind.max .i64 = 9223372036854775807 := by decide
  rw [e1, e2] at h
  exact h
set_option maxRecDepth 100000 in
theorem op_87r : ∀ (fuel : Nat) (cs : List Value) (x : DataW H × List MemPlace), DataW.trod enc Try.prog W base spare held fuel 87 cs = some x → Small 87 x.1 → ∃ y : S87, k87.K W y cs ∧ InR y := by
  intro fuel
  induction fuel using Nat.strongRecOn with
  | _ fuel ih =>
    intro cs x h hs
    obtain ⟨xs, n, rfl, rfl, hl, hxl, hf⟩ := DataW.trod_struct Try.underlying87 h
    rw [cellsOf87] at hl
    match xs, hxl, cs, hl with
    | [y0, y1, y2, y3], _, [c0, c1, c2, c3], _ =>
      have f0 : DataW.trod enc Try.prog W base spare held n 3 (List.take (Try.prog.cellsOf 3) (List.drop 0 [c0, c1, c2, c3])) = some y0 := hf 0 _ rfl
      have f1 : DataW.trod enc Try.prog W base spare held n 2 (List.take (Try.prog.cellsOf 2) (List.drop 1 [c0, c1, c2, c3])) = some y1 := hf 1 _ rfl
      have f2 : DataW.trod enc Try.prog W base spare held n 9 (List.take (Try.prog.cellsOf 9) (List.drop 2 [c0, c1, c2, c3])) = some y2 := hf 2 _ rfl
      have f3 : DataW.trod enc Try.prog W base spare held n 60 (List.take (Try.prog.cellsOf 60) (List.drop 3 [c0, c1, c2, c3])) = some y3 := hf 3 _ rfl
      simp only [cellsOf3, cellsOf2, cellsOf9, cellsOf60] at f0 f1 f2 f3
      obtain ⟨a0, e0, _, _⟩ := DataW.trod_int Try.underlying3 f0
      obtain ⟨a1, e1, _, w1⟩ := DataW.trod_int Try.underlying2 f1
      obtain ⟨a2, e2, _, _⟩ := DataW.trod_string Try.underlying9 f2
      have hs3 : Small 60 y3.1 := fun m hm => hs m (by simp only [DataW.weights, Try.underlying87, List.map_cons, List.map_nil, DataW.weightsEach, List.mem_append]; exact .inr (.inr (.inr (.inl hm))))
      obtain ⟨A, c, l, e3, hlc, hC, hq, _⟩ := op_slice (d := k87) (Q := InR) Try.underlying60 cellsOf87 rfl (fun m hm cs x h hs => ih m (Nat.lt_succ_of_lt hm) cs x h hs) f3 hs3
      simp at e0 e1 e2 e3
      subst e0 e1 e2 e3
      exact ⟨⟨a0, a1, a2, l⟩, k87_mk W ⟨a0, a1, a2, l⟩ hlc hC, InR.mk _ (in64_wf w1) hq⟩
set_option maxRecDepth 100000 in
theorem op_valuesr {fuel : Nat} {cs : List Value} {x : DataW H × List MemPlace} (h : DataW.trod enc Try.prog W base spare held fuel 60 cs = some x) (hs : Small 60 x.1) : ∃ A c, ∃ xs : List S87, cs = [.slice A xs.length c] ∧ xs.length ≤ c ∧ k87.C W A xs.length xs ∧ ∀ y ∈ xs, InR y := by
  obtain ⟨A, c, l, e3, hlc, hC, hq, _⟩ := op_slice (d := k87) (Q := InR) Try.underlying60 cellsOf87 rfl (fun m hm cs x h hs => op_87r m cs x h hs) h hs
  exact ⟨A, c, l, e3, hlc, hC, hq⟩
set_option maxRecDepth 100000 in
theorem op_63r (fuel : Nat) (cs : List Value) (x : DataW H × List MemPlace) (h : DataW.trod enc Try.prog W base spare held fuel 63 cs = some x) (hs : Small 63 x.1) : ∃ y : S63, k63.K W y cs ∧ ∀ z ∈ y.f1, InR z := by
  obtain ⟨xs, n, rfl, rfl, hl, hxl, hf⟩ := DataW.trod_struct Try.underlying63 h
  rw [cellsOf63] at hl
  match xs, hxl, cs, hl with
  | [y0, y1], _, [c0, c1], _ =>
    have f0 : DataW.trod enc Try.prog W base spare held n 9 (List.take (Try.prog.cellsOf 9) (List.drop 0 [c0, c1])) = some y0 := hf 0 _ rfl
    have f1 : DataW.trod enc Try.prog W base spare held n 60 (List.take (Try.prog.cellsOf 60) (List.drop 1 [c0, c1])) = some y1 := hf 1 _ rfl
    simp only [cellsOf9, cellsOf60] at f0 f1
    obtain ⟨a0, e0, _, _⟩ := DataW.trod_string Try.underlying9 f0
    have hs1 : Small 60 y1.1 := fun m hm => hs m (by simp only [DataW.weights, Try.underlying63, List.map_cons, List.map_nil, DataW.weightsEach, List.mem_append]; exact .inr (.inl hm))
    obtain ⟨A1, d1, l, e1, hl1, hC1, hq⟩ := op_valuesr f1 hs1
    simp at e0 e1
    subst e0 e1
    exact ⟨⟨a0, l⟩, k63_mk W ⟨a0, l⟩ hl1 hC1, hq⟩
theorem op_cellsr {fuel : Nat} {cs : List Value} {x : DataW H × List MemPlace} (h : DataW.trod enc Try.prog W base spare held fuel 22 cs = some x) (hs : Small 22 x.1) : ∃ A c, ∃ xs : List S63, cs = [.slice A xs.length c] ∧ xs.length ≤ c ∧ k63.C W A xs.length xs ∧ ∀ c ∈ xs, ∀ z ∈ c.f1, InR z := by
  obtain ⟨A, c, l, e3, hlc, hC, hq, hB⟩ := op_slice (d := k63) (Q := (fun c : S63 => ∀ z ∈ c.f1, InR z)) Try.underlying22 cellsOf63 rfl (fun m hm cs x h hs => op_63r m cs x h hs) h hs
  exact ⟨A, c, l, e3, hlc, hC, hq⟩
set_option maxRecDepth 100000 in
theorem op_24r (fuel : Nat) (cs : List Value) (x : DataW H × List MemPlace) (h : DataW.trod enc Try.prog W base spare held fuel 24 cs = some x) (hs : Small 24 x.1) : ∃ y : S24, k24.K W y cs ∧ (∀ c ∈ y.f1, ∀ z ∈ c.f1, InR z) := by
  obtain ⟨xs, n, rfl, rfl, hl, hxl, hf⟩ := DataW.trod_struct Try.underlying24 h
  rw [cellsOf24] at hl
  match xs, hxl, cs, hl with
  | [y0, y1], _, [c0, c1], _ =>
    have f0 : DataW.trod enc Try.prog W base spare held n 3 (List.take (Try.prog.cellsOf 3) (List.drop 0 [c0, c1])) = some y0 := hf 0 _ rfl
    have f1 : DataW.trod enc Try.prog W base spare held n 22 (List.take (Try.prog.cellsOf 22) (List.drop 1 [c0, c1])) = some y1 := hf 1 _ rfl
    simp only [cellsOf3, cellsOf22] at f0 f1
    obtain ⟨a0, e0, _, _⟩ := DataW.trod_int Try.underlying3 f0
    have hs1 : Small 22 y1.1 := fun m hm => hs m (by simp only [DataW.weights, Try.underlying24, List.map_cons, List.map_nil, DataW.weightsEach, List.mem_append]; exact .inr (.inl hm))
    obtain ⟨A1, d1, l, e1, hl1, hC1, hq⟩ := op_cellsr f1 hs1
    simp at e0 e1
    subst e0 e1
    exact ⟨⟨a0, l⟩, k24_mk W ⟨a0, l⟩ hl1 hC1, hq⟩
end
end Go.Proofs.Ytpplnhefpcofoaa.PDeltaJoin
