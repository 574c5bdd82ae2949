/- What the rows' arguments are: a list of calls, opened. -/
import Derived.Test.YtcbfddhdaamimaaSI
import Derived.Deep.Slices
import Derived.SizedLaws
namespace Go.Proofs.Ytcbfddhdaamimaa.PLaneFifo
open Go.RowKit Go.Proofs.YtcbfddhdaamimaaW.PrintWords Go.Proofs.YtcbfddhdaamimaaW.PrintLast
set_option linter.unusedVariables false
set_option linter.unusedSimpArgs false
section
variable {H : Type} {enc : TypeId × Value → H} {W : World} {base : Nat} {spare : Nat → Bool} {held : Bool}
def Small (t : TypeId) (d : DataW H) : Prop := ∀ n ∈ DataW.weights Try.prog t d, n ≤ reachBytes
theorem weights_all {e : TypeId} {l : List (DataW H)} {d : DataW H} (h : d ∈ l) {n : Nat} (hn : n ∈ DataW.weights Try.prog e d) : n ∈ DataW.weightsAll Try.prog e l := by
  induction l with
  | nil => cases h
  | cons a l ih =>
    rw [DataW.weightsAll, List.mem_append]
    rcases List.mem_cons.1 h with rfl | h
    · exact .inl hn
    · exact .inr (ih h)
theorem op_slice {α : Type} [Inhabited α] {t e B fuel : Nat} {d : Kd α} {Q : α → Prop} (ht : Try.prog.underlying t = some (.slice e)) (hc : Try.prog.cellsOf e = d.sz) (hB : Try.prog.bytesOf e = B)
    (elem : ∀ n, n < fuel → ∀ cs x, DataW.trod enc Try.prog W base spare held n e cs = some x → Small e x.1 → ∃ y, d.K W y cs ∧ Q y)
    {cs : List Value} {x : DataW H × List MemPlace} (h : DataW.trod enc Try.prog W base spare held fuel t cs = some x) (hs : Small t x.1) :
    ∃ A c, ∃ xs : List α, cs = [.slice A xs.length c] ∧ xs.length ≤ c ∧ d.C W A xs.length xs ∧ (∀ y ∈ xs, Q y) ∧ xs.length * B ≤ reachBytes := by
  rcases DataW.trod_slice ht h with ⟨rfl, rfl⟩ | ⟨a, len, cap, elems, rest, n, rfl, rfl, rfl, hb, hl, hm, hlen, hel, hsp, hns⟩
  · exact ⟨none, 0, [], rfl, Nat.le_refl _, ⟨rfl, by simp, fun h => absurd h (Nat.lt_irrefl 0)⟩, fun y hy => (by cases hy), by simp⟩
  · have hw : ∀ d ∈ elems.map (·.1), Small e d := fun d hd m hm => hs m (by
      simp only [DataW.weights, ht]
      exact List.mem_cons_of_mem _ (List.mem_append_left _ (weights_all hd hm)))
    have hwt : len * B ≤ reachBytes := by
      have := hs ((elems.map (·.1)).length * Try.prog.bytesOf e + (rest.map (·.1)).length * Try.prog.bytesOf e) (by
        simp only [DataW.weights, ht, Nat.add_mul]
        exact List.mem_cons_self)
      rw [List.length_map, hlen, hB] at this
      omega
    obtain ⟨f, hf⟩ := Deep.choose_lt (α := α) (n := len) (p := fun i y => ∃ cs', W.cells? base (a.add (i * Try.prog.cellsOf e)) (Try.prog.cellsOf e) = some cs' ∧ d.K W y cs' ∧ Q y) (fun i hi => by
      have h1 := hel i hi
      have hi' : i < elems.length := by omega
      rw [List.getElem?_eq_getElem hi'] at h1
      obtain ⟨cs', h2, h3⟩ := Option.bind_eq_some_iff.1 h1
      obtain ⟨y, hy, hq⟩ := elem n (Nat.lt_succ_self n) cs' _ h3 (hw _ (List.mem_map_of_mem (List.getElem_mem hi')))
      exact ⟨y, cs', h2, hy, hq⟩)
    have hxl : ((List.range len).map f).length = len := by simp
    refine ⟨some a, cap, (List.range len).map f, by rw [hxl], by rw [hxl]; exact hl, ?_, ?_, by rw [hxl]; exact hwt⟩
    · rw [hxl]
      refine ⟨hxl, Nat.le_trans (Nat.le_trans hl hm) (by decide), fun _ => ⟨a, rfl, fun j p hp => ?_⟩⟩
      have hj : j < len := by
        have := (List.getElem?_eq_some_iff.1 hp).1
        rw [hxl] at this
        exact this
      obtain ⟨cs', h1, h2, _⟩ := hf j hj
      have hpj : f j = p := by
        rw [List.getElem?_map, List.getElem?_range hj] at hp
        simpa using hp
      rw [hpj] at h2
      rw [hc] at h1
      obtain ⟨_, h3, h4⟩ := World.cells?_some h1
      refine ⟨cs', h3, h2, fun i u hu => ?_⟩
      have hi : i < d.sz := by rw [← h3]; exact (List.getElem?_eq_some_iff.1 hu).1
      rw [← Deep.add_add, h4 i hi, hu]
    · intro y hy
      obtain ⟨j, hj, rfl⟩ := List.mem_map.1 hy
      obtain ⟨_, _, _, hq⟩ := hf j (List.mem_range.1 hj)
      exact hq
theorem cellsOf3 : Try.prog.cellsOf 3 = 1 := by kernel_rfl
theorem cellsOf2 : Try.prog.cellsOf 2 = 1 := by kernel_rfl
theorem cellsOf9 : Try.prog.cellsOf 9 = 1 := by kernel_rfl
theorem cellsOf38 : Try.prog.cellsOf 38 = 1 := by kernel_rfl
theorem cellsOf28 : Try.prog.cellsOf 28 = 1 := by kernel_rfl
theorem cellsOf31 : Try.prog.cellsOf 31 = 1 := by kernel_rfl
theorem cellsOf30 : Try.prog.cellsOf 30 = 4 := by kernel_rfl
theorem cellsOf33 : Try.prog.cellsOf 33 = 6 := by kernel_rfl
instance : Inhabited S30 := ⟨⟨0, 0, ⟨#[]⟩, []⟩⟩
instance : Inhabited S33 := ⟨⟨⟨#[]⟩, default, []⟩⟩
theorem op_ints {fuel : Nat} {cs : List Value} {x : DataW H × List MemPlace} (h : DataW.trod enc Try.prog W base spare held fuel 31 cs = some x) (hs : Small 31 x.1) :
    ∃ A c, ∃ xs : List Int, cs = [.slice A xs.length c] ∧ xs.length ≤ c ∧ (Kd.int .i64).C W A xs.length xs ∧ (∀ y ∈ xs, True) ∧ xs.length * 8 ≤ reachBytes :=
  op_slice (d := Kd.int .i64) Try.underlying31 cellsOf3 (by kernel_rfl) (fun n _ cs x h _ => by
    obtain ⟨m, rfl, _, _⟩ := DataW.trod_int Try.underlying3 h
    exact ⟨m, rfl, trivial⟩) h hs
set_option maxRecDepth 100000 in
theorem op_30 : ∀ (fuel : Nat) (cs : List Value) (x : DataW H × List MemPlace), DataW.trod enc Try.prog W base spare held fuel 30 cs = some x → Small 30 x.1 → ∃ y : S30, k30.K W y cs ∧ True := by
  intro fuel
  induction fuel using Nat.strongRecOn with
  | _ fuel ih =>
    intro cs x h hs
    obtain ⟨xs, n, rfl, rfl, hl, hxl, hf⟩ := DataW.trod_struct Try.underlying30 h
    rw [cellsOf30] at hl
    match xs, hxl, cs, hl with
    | [y0, y1, y2, y3], _, [c0, c1, c2, c3], _ =>
      have f0 : DataW.trod enc Try.prog W base spare held n 3 (List.take (Try.prog.cellsOf 3) (List.drop 0 [c0, c1, c2, c3])) = some y0 := hf 0 _ rfl
      have f1 : DataW.trod enc Try.prog W base spare held n 2 (List.take (Try.prog.cellsOf 2) (List.drop 1 [c0, c1, c2, c3])) = some y1 := hf 1 _ rfl
      have f2 : DataW.trod enc Try.prog W base spare held n 9 (List.take (Try.prog.cellsOf 9) (List.drop 2 [c0, c1, c2, c3])) = some y2 := hf 2 _ rfl
      have f3 : DataW.trod enc Try.prog W base spare held n 28 (List.take (Try.prog.cellsOf 28) (List.drop 3 [c0, c1, c2, c3])) = some y3 := hf 3 _ rfl
      simp only [cellsOf3, cellsOf2, cellsOf9, cellsOf28] at f0 f1 f2 f3
      obtain ⟨a0, e0, _, _⟩ := DataW.trod_int Try.underlying3 f0
      obtain ⟨a1, e1, _, _⟩ := DataW.trod_int Try.underlying2 f1
      obtain ⟨a2, e2, _, _⟩ := DataW.trod_string Try.underlying9 f2
      have hs3 : Small 28 y3.1 := fun m hm => hs m (by simp only [DataW.weights, Try.underlying30, List.map_cons, List.map_nil, DataW.weightsEach, List.mem_append]; exact .inr (.inr (.inr (.inl hm))))
      obtain ⟨A, c, l, e3, hlc, hC, _, _⟩ := op_slice (d := k30) (Q := fun _ => True) Try.underlying28 cellsOf30 rfl (fun m hm cs x h hs => ih m (Nat.lt_succ_of_lt hm) cs x h hs) f3 hs3
      simp at e0 e1 e2 e3
      subst e0 e1 e2 e3
      exact ⟨⟨a0, a1, a2, l⟩, k30_mk W ⟨a0, a1, a2, l⟩ hlc hC, trivial⟩
set_option maxRecDepth 100000 in
theorem op_values {fuel : Nat} {cs : List Value} {x : DataW H × List MemPlace} (h : DataW.trod enc Try.prog W base spare held fuel 28 cs = some x) (hs : Small 28 x.1) : ∃ A c, ∃ xs : List S30, cs = [.slice A xs.length c] ∧ xs.length ≤ c ∧ k30.C W A xs.length xs := by
  obtain ⟨A, c, l, e3, hlc, hC, _, _⟩ := op_slice (d := k30) (Q := fun _ => True) Try.underlying28 cellsOf30 rfl (fun m hm cs x h hs => op_30 m cs x h hs) h hs
  exact ⟨A, c, l, e3, hlc, hC⟩
set_option maxRecDepth 100000 in
/-- A value in its row's cells. -/
theorem op_val {fuel : Nat} {cs : List Value} {x : DataW H × List MemPlace} (h : DataW.trod enc Try.prog W base spare held fuel 30 cs = some x) (hs : Small 30 x.1) : ∃ (y : S30) (A : Option Addr) (c : Nat), cs = [.int .i64 y.f0, .int .i64 y.f1, .string y.f2, .slice A y.f3.length c] ∧ y.f3.length ≤ c ∧ k30.C W A y.f3.length y.f3 := by
  obtain ⟨y, hy, _⟩ := op_30 fuel cs x h hs
  obtain ⟨A, c, h1, h2, h3⟩ := k30_open hy
  exact ⟨y, A, c, h1, h2, h3⟩
set_option maxRecDepth 100000 in
theorem op_33 (fuel : Nat) (cs : List Value) (x : DataW H × List MemPlace) (h : DataW.trod enc Try.prog W base spare held fuel 33 cs = some x) (hs : Small 33 x.1) : ∃ y : S33, k33.K W y cs ∧ lenR y := by
  obtain ⟨xs, n, rfl, rfl, hl, hxl, hf⟩ := DataW.trod_struct Try.underlying33 h
  rw [cellsOf33] at hl
  match xs, hxl, cs, hl with
  | [y0, y1, y2], _, [c0, c1, c2, c3, c4, c5], _ =>
    have f0 : DataW.trod enc Try.prog W base spare held n 9 (List.take (Try.prog.cellsOf 9) (List.drop 0 [c0, c1, c2, c3, c4, c5])) = some y0 := hf 0 _ rfl
    have f1 : DataW.trod enc Try.prog W base spare held n 30 (List.take (Try.prog.cellsOf 30) (List.drop 1 [c0, c1, c2, c3, c4, c5])) = some y1 := hf 1 _ rfl
    have f2 : DataW.trod enc Try.prog W base spare held n 31 (List.take (Try.prog.cellsOf 31) (List.drop 5 [c0, c1, c2, c3, c4, c5])) = some y2 := hf 2 _ rfl
    simp only [cellsOf9, cellsOf30, cellsOf31] at f0 f1 f2
    obtain ⟨a0, e0, _, _⟩ := DataW.trod_string Try.underlying9 f0
    have hs1 : Small 30 y1.1 := fun m hm => hs m (by simp only [DataW.weights, Try.underlying33, List.map_cons, List.map_nil, DataW.weightsEach, List.mem_append]; exact .inr (.inl hm))
    have hs2 : Small 31 y2.1 := fun m hm => hs m (by simp only [DataW.weights, Try.underlying33, List.map_cons, List.map_nil, DataW.weightsEach, List.mem_append]; exact .inr (.inr (.inl hm)))
    obtain ⟨v, A1, d1, e1, hl1, hC1⟩ := op_val f1 hs1
    obtain ⟨A2, d2, l, e2, hl2, hC2, _, hw⟩ := op_ints f2 hs2
    simp at e0 e1 e2
    obtain ⟨e10, e11, e12, e13⟩ := e1
    subst e0 e10 e11 e12 e13 e2
    exact ⟨⟨a0, v, l⟩, k33_mk W ⟨a0, v, l⟩ hl1 hC1 hl2 hC2, by unfold lenR; show l.length ≤ _; unfold reachBytes at hw; omega⟩
theorem op_records {fuel : Nat} {cs : List Value} {x : DataW H × List MemPlace} (h : DataW.trod enc Try.prog W base spare held fuel 38 cs = some x) (hs : Small 38 x.1) : ∃ A c, ∃ xs : List S33, cs = [.slice A xs.length c] ∧ xs.length ≤ c ∧ k33.C W A xs.length xs ∧ ∀ y ∈ xs, lenR y := by
  obtain ⟨A, c, l, e3, hlc, hC, hq, _⟩ := op_slice (d := k33) (Q := lenR) Try.underlying38 cellsOf33 rfl (fun m hm cs x h hs => op_33 m cs x h hs) h hs
  exact ⟨A, c, l, e3, hlc, hC, hq⟩
theorem cellsOf22 : Try.prog.cellsOf 22 = 1 := by kernel_rfl
theorem cellsOf4 : Try.prog.cellsOf 4 = 1 := by kernel_rfl
theorem cellsOf35 : Try.prog.cellsOf 35 = 7 := by kernel_rfl
theorem cellsOf60 : Try.prog.cellsOf 60 = 4 := by kernel_rfl
instance : Inhabited S35 := ⟨⟨0, default⟩⟩
instance : Inhabited S60 := ⟨⟨0, false, [], []⟩⟩
def lenI (x : S35) : Prop := lenR x.f1
def lenO (o : S60) : Prop := (∀ y ∈ o.f2, lenR y.f1) ∧ (∀ y ∈ o.f3, lenR y)
set_option maxRecDepth 100000 in
theorem op_35 (fuel : Nat) (cs : List Value) (x : DataW H × List MemPlace) (h : DataW.trod enc Try.prog W base spare held fuel 35 cs = some x) (hs : Small 35 x.1) : ∃ y : S35, k35.K W y cs ∧ lenI y := by
  obtain ⟨xs, n, rfl, rfl, hl, hxl, hf⟩ := DataW.trod_struct Try.underlying35 h
  rw [cellsOf35] at hl
  match xs, hxl, cs, hl with
  | [y0, y1], _, [c0, c1, c2, c3, c4, c5, c6], _ =>
    have f0 : DataW.trod enc Try.prog W base spare held n 3 (List.take (Try.prog.cellsOf 3) (List.drop 0 [c0, c1, c2, c3, c4, c5, c6])) = some y0 := hf 0 _ rfl
    have f1 : DataW.trod enc Try.prog W base spare held n 33 (List.take (Try.prog.cellsOf 33) (List.drop 1 [c0, c1, c2, c3, c4, c5, c6])) = some y1 := hf 1 _ rfl
    simp only [cellsOf3, cellsOf33] at f0 f1
    obtain ⟨a0, e0, _, _⟩ := DataW.trod_int Try.underlying3 f0
    have hs1 : Small 33 y1.1 := fun m hm => hs m (by simp only [DataW.weights, Try.underlying35, List.map_cons, List.map_nil, DataW.weightsEach, List.mem_append]; exact .inr (.inl hm))
    obtain ⟨r, hr, hlr⟩ := op_33 _ _ _ f1 hs1
    obtain ⟨A1, d1, A2, d2, e1, hl1, hC1, hl2, hC2⟩ := k33_open hr
    simp at e0 e1
    obtain ⟨e10, e11, e12, e13, e14, e15⟩ := e1
    subst e0 e10 e11 e12 e13 e14 e15
    exact ⟨⟨a0, r⟩, k35_mk W ⟨a0, r⟩ hl1 hC1 hl2 hC2, hlr⟩
set_option maxRecDepth 100000 in
theorem op_items {fuel : Nat} {cs : List Value} {x : DataW H × List MemPlace} (h : DataW.trod enc Try.prog W base spare held fuel 22 cs = some x) (hs : Small 22 x.1) : ∃ A c, ∃ xs : List S35, cs = [.slice A xs.length c] ∧ xs.length ≤ c ∧ k35.C W A xs.length xs ∧ (∀ y ∈ xs, lenI y) := by
  obtain ⟨A, c, l, e3, hlc, hC, hq, _⟩ := op_slice (d := k35) (Q := lenI) Try.underlying22 cellsOf35 rfl (fun m hm cs x h hs => op_35 m cs x h hs) h hs
  exact ⟨A, c, l, e3, hlc, hC, hq⟩
set_option maxRecDepth 100000 in
theorem op_60 (fuel : Nat) (cs : List Value) (x : DataW H × List MemPlace) (h : DataW.trod enc Try.prog W base spare held fuel 60 cs = some x) (hs : Small 60 x.1) : ∃ y : S60, k60.K W y cs ∧ lenO y := by
  obtain ⟨xs, n, rfl, rfl, hl, hxl, hf⟩ := DataW.trod_struct Try.underlying60 h
  rw [cellsOf60] at hl
  match xs, hxl, cs, hl with
  | [y0, y1, y2, y3], _, [c0, c1, c2, c3], _ =>
    have f0 : DataW.trod enc Try.prog W base spare held n 3 (List.take (Try.prog.cellsOf 3) (List.drop 0 [c0, c1, c2, c3])) = some y0 := hf 0 _ rfl
    have f1 : DataW.trod enc Try.prog W base spare held n 4 (List.take (Try.prog.cellsOf 4) (List.drop 1 [c0, c1, c2, c3])) = some y1 := hf 1 _ rfl
    have f2 : DataW.trod enc Try.prog W base spare held n 22 (List.take (Try.prog.cellsOf 22) (List.drop 2 [c0, c1, c2, c3])) = some y2 := hf 2 _ rfl
    have f3 : DataW.trod enc Try.prog W base spare held n 38 (List.take (Try.prog.cellsOf 38) (List.drop 3 [c0, c1, c2, c3])) = some y3 := hf 3 _ rfl
    simp only [cellsOf3, cellsOf4, cellsOf22, cellsOf38] at f0 f1 f2 f3
    obtain ⟨a0, e0, _, _⟩ := DataW.trod_int Try.underlying3 f0
    obtain ⟨a1, e1, _⟩ := DataW.trod_bool Try.underlying4 f1
    have hs2 : Small 22 y2.1 := fun m hm => hs m (by simp only [DataW.weights, Try.underlying60, List.map_cons, List.map_nil, DataW.weightsEach, List.mem_append]; exact .inr (.inr (.inl hm)))
    obtain ⟨A2, d2, u, e2, hl2, hC2, hq2⟩ := op_items f2 hs2
    have hs3 : Small 38 y3.1 := fun m hm => hs m (by simp only [DataW.weights, Try.underlying60, List.map_cons, List.map_nil, DataW.weightsEach, List.mem_append]; exact .inr (.inr (.inr (.inl hm))))
    obtain ⟨A3, d3, v, e3, hl3, hC3, hq3⟩ := op_records f3 hs3
    simp at e0 e1 e2 e3
    subst e0 e1 e2 e3
    exact ⟨⟨a0, a1, u, v⟩, k60_mk W ⟨a0, a1, u, v⟩ hl2 hC2 hl3 hC3, hq2, hq3⟩
set_option maxRecDepth 100000 in
theorem op_script {fuel : Nat} {cs : List Value} {x : DataW H × List MemPlace} (h : DataW.trod enc Try.prog W base spare held fuel 53 cs = some x) (hs : Small 53 x.1) : ∃ A c, ∃ xs : List S60, cs = [.slice A xs.length c] ∧ xs.length ≤ c ∧ k60.C W A xs.length xs ∧ (∀ y ∈ xs, lenO y) := by
  obtain ⟨A, c, l, e3, hlc, hC, hq, _⟩ := op_slice (d := k60) (Q := lenO) Try.underlying53 cellsOf60 rfl (fun m hm cs x h hs => op_60 m cs x h hs) h hs
  exact ⟨A, c, l, e3, hlc, hC, hq⟩
end
end Go.Proofs.Ytcbfddhdaamimaa.PLaneFifo
