/- What the rows' arguments are: a list of calls, opened. -/
import Derived.Test.YtcbaiplamaopeaaSI
import Derived.Deep.Slices
import Derived.SizedLaws
namespace Go.Proofs.Ytcbaiplamaopeaa.PPostShots
open Go.RowKit Go.Proofs.YtcbaiplamaopeaaW.PrintWords Go.Proofs.YtcbaiplamaopeaaW.PrintLast
set_option linter.unusedVariables false
set_option linter.unusedSimpArgs false
section
variable {H : Type} {enc : TypeId × Value → H} {W : World} {base : Nat} {spare : Nat → Bool} {held : Bool}
def Small (t : TypeId) (d : DataW H) : Prop := ∀ n ∈ DataW.weights Try.prog t d, n ≤ reachBytes
theorem weights_all {e : TypeId} {l : List (DataW H)} {d : DataW H} (h : d ∈ l) {n : Nat} (hn : n ∈ DataW.weights Try.prog e d) : n ∈ DataW.weightsAll Try.prog e l := by
  induction l with
  | nil => cases h
  | cons a l ih =>
    rw [DataW.weightsAll, List.mem_append]
    rcases List.mem_cons.1 h with rfl | h
    · exact .inl hn
    · exact .inr (ih h)
theorem op_slice {α : Type} [Inhabited α] {t e B fuel : Nat} {d : Kd α} {Q : α → Prop} (ht : Try.prog.underlying t = some (.slice e)) (hc : Try.prog.cellsOf e = d.sz) (hB : Try.prog.bytesOf e = B)
    (elem : ∀ n, n < fuel → ∀ cs x, DataW.trod enc Try.prog W base spare held n e cs = some x → Small e x.1 → ∃ y, d.K W y cs ∧ Q y)
    {cs : List Value} {x : DataW H × List MemPlace} (h : DataW.trod enc Try.prog W base spare held fuel t cs = some x) (hs : Small t x.1) :
    ∃ A c, ∃ xs : List α, cs = [.slice A xs.length c] ∧ xs.length ≤ c ∧ d.C W A xs.length xs ∧ (∀ y ∈ xs, Q y) ∧ xs.length * B ≤ reachBytes := by
  rcases DataW.trod_slice ht h with ⟨rfl, rfl⟩ | ⟨a, len, cap, elems, rest, n, rfl, rfl, rfl, hb, hl, hm, hlen, hel, hsp, hns⟩
  · exact ⟨none, 0, [], rfl, Nat.le_refl _, ⟨rfl, by simp, fun h => absurd h (Nat.lt_irrefl 0)⟩, fun y hy => (by cases hy), by simp⟩
  · have hw : ∀ d ∈ elems.map (·.1), Small e d := fun d hd m hm => hs m (by
      simp only [DataW.weights, ht]
      exact List.mem_cons_of_mem _ (List.mem_append_left _ (weights_all hd hm)))
    have hwt : len * B ≤ reachBytes := by
      have := hs ((elems.map (·.1)).length * Try.prog.bytesOf e + (rest.map (·.1)).length * Try.prog.bytesOf e) (by
        simp only [DataW.weights, ht, Nat.add_mul]
        exact List.mem_cons_self)
      rw [List.length_map, hlen, hB] at this
      omega
    obtain ⟨f, hf⟩ := Deep.choose_lt (α := α) (n := len) (p := fun i y => ∃ cs', W.cells? base (a.add (i * Try.prog.cellsOf e)) (Try.prog.cellsOf e) = some cs' ∧ d.K W y cs' ∧ Q y) (fun i hi => by
      have h1 := hel i hi
      have hi' : i < elems.length := by omega
      rw [List.getElem?_eq_getElem hi'] at h1
      obtain ⟨cs', h2, h3⟩ := Option.bind_eq_some_iff.1 h1
      obtain ⟨y, hy, hq⟩ := elem n (Nat.lt_succ_self n) cs' _ h3 (hw _ (List.mem_map_of_mem (List.getElem_mem hi')))
      exact ⟨y, cs', h2, hy, hq⟩)
    have hxl : ((List.range len).map f).length = len := by simp
    refine ⟨some a, cap, (List.range len).map f, by rw [hxl], by rw [hxl]; exact hl, ?_, ?_, by rw [hxl]; exact hwt⟩
    · rw [hxl]
      refine ⟨hxl, Nat.le_trans (Nat.le_trans hl hm) (by decide), fun _ => ⟨a, rfl, fun j p hp => ?_⟩⟩
      have hj : j < len := by
        have := (List.getElem?_eq_some_iff.1 hp).1
        rw [hxl] at this
        exact this
      obtain ⟨cs', h1, h2, _⟩ := hf j hj
      have hpj : f j = p := by
        rw [List.getElem?_map, List.getElem?_range hj] at hp
        simpa using hp
      rw [hpj] at h2
      rw [hc] at h1
      obtain ⟨_, h3, h4⟩ := World.cells?_some h1
      refine ⟨cs', h3, h2, fun i u hu => ?_⟩
      have hi : i < d.sz := by rw [← h3]; exact (List.getElem?_eq_some_iff.1 hu).1
      rw [← Deep.add_add, h4 i hi, hu]
    · intro y hy
      obtain ⟨j, hj, rfl⟩ := List.mem_map.1 hy
      obtain ⟨_, _, _, hq⟩ := hf j (List.mem_range.1 hj)
      exact hq
theorem cellsOf3 : Try.prog.cellsOf 3 = 1 := by kernel_rfl
theorem cellsOf2 : Try.prog.cellsOf 2 = 1 := by kernel_rfl
theorem cellsOf9 : Try.prog.cellsOf 9 = 1 := by kernel_rfl
theorem cellsOf38 : Try.prog.cellsOf 38 = 1 := by kernel_rfl
theorem cellsOf79 : Try.prog.cellsOf 79 = 1 := by kernel_rfl
theorem cellsOf23 : Try.prog.cellsOf 23 = 1 := by kernel_rfl
theorem cellsOf81 : Try.prog.cellsOf 81 = 4 := by kernel_rfl
theorem cellsOf83 : Try.prog.cellsOf 83 = 6 := by kernel_rfl
theorem cellsOf103 : Try.prog.cellsOf 103 = 2 := by kernel_rfl
instance : Inhabited S81 := ⟨⟨0, 0, ⟨#[]⟩, []⟩⟩
instance : Inhabited S103 := ⟨⟨⟨#[]⟩, []⟩⟩
instance : Inhabited S83 := ⟨⟨⟨#[]⟩, default, []⟩⟩
theorem op_ints {fuel : Nat} {cs : List Value} {x : DataW H × List MemPlace} (h : DataW.trod enc Try.prog W base spare held fuel 23 cs = some x) (hs : Small 23 x.1) :
    ∃ A c, ∃ xs : List Int, cs = [.slice A xs.length c] ∧ xs.length ≤ c ∧ (Kd.int .i64).C W A xs.length xs ∧ (∀ y ∈ xs, True) ∧ xs.length * 8 ≤ reachBytes :=
  op_slice (d := Kd.int .i64) Try.underlying23 cellsOf3 (by kernel_rfl) (fun n _ cs x h _ => by
    obtain ⟨m, rfl, _, _⟩ := DataW.trod_int Try.underlying3 h
    exact ⟨m, rfl, trivial⟩) h hs
set_option maxRecDepth 100000 in
theorem op_81 : ∀ (fuel : Nat) (cs : List Value) (x : DataW H × List MemPlace), DataW.trod enc Try.prog W base spare held fuel 81 cs = some x → Small 81 x.1 → ∃ y : S81, k81.K W y cs ∧ True := by
  intro fuel
  induction fuel using Nat.strongRecOn with
  | _ fuel ih =>
    intro cs x h hs
    obtain ⟨xs, n, rfl, rfl, hl, hxl, hf⟩ := DataW.trod_struct Try.underlying81 h
    rw [cellsOf81] at hl
    match xs, hxl, cs, hl with
    | [y0, y1, y2, y3], _, [c0, c1, c2, c3], _ =>
      have f0 : DataW.trod enc Try.prog W base spare held n 3 (List.take (Try.prog.cellsOf 3) (List.drop 0 [c0, c1, c2, c3])) = some y0 := hf 0 _ rfl
      have f1 : DataW.trod enc Try.prog W base spare held n 2 (List.take (Try.prog.cellsOf 2) (List.drop 1 [c0, c1, c2, c3])) = some y1 := hf 1 _ rfl
      have f2 : DataW.trod enc Try.prog W base spare held n 9 (List.take (Try.prog.cellsOf 9) (List.drop 2 [c0, c1, c2, c3])) = some y2 := hf 2 _ rfl
      have f3 : DataW.trod enc Try.prog W base spare held n 79 (List.take (Try.prog.cellsOf 79) (List.drop 3 [c0, c1, c2, c3])) = some y3 := hf 3 _ rfl
      simp only [cellsOf3, cellsOf2, cellsOf9, cellsOf79] at f0 f1 f2 f3
      obtain ⟨a0, e0, _, _⟩ := DataW.trod_int Try.underlying3 f0
      obtain ⟨a1, e1, _, _⟩ := DataW.trod_int Try.underlying2 f1
      obtain ⟨a2, e2, _, _⟩ := DataW.trod_string Try.underlying9 f2
      have hs3 : Small 79 y3.1 := fun m hm => hs m (by simp only [DataW.weights, Try.underlying81, List.map_cons, List.map_nil, DataW.weightsEach, List.mem_append]; exact .inr (.inr (.inr (.inl hm))))
      obtain ⟨A, c, l, e3, hlc, hC, _, _⟩ := op_slice (d := k81) (Q := fun _ => True) Try.underlying79 cellsOf81 rfl (fun m hm cs x h hs => ih m (Nat.lt_succ_of_lt hm) cs x h hs) f3 hs3
      simp at e0 e1 e2 e3
      subst e0 e1 e2 e3
      exact ⟨⟨a0, a1, a2, l⟩, k81_mk W ⟨a0, a1, a2, l⟩ hlc hC, trivial⟩
set_option maxRecDepth 100000 in
theorem op_values {fuel : Nat} {cs : List Value} {x : DataW H × List MemPlace} (h : DataW.trod enc Try.prog W base spare held fuel 79 cs = some x) (hs : Small 79 x.1) : ∃ A c, ∃ xs : List S81, cs = [.slice A xs.length c] ∧ xs.length ≤ c ∧ k81.C W A xs.length xs := by
  obtain ⟨A, c, l, e3, hlc, hC, _, _⟩ := op_slice (d := k81) (Q := fun _ => True) Try.underlying79 cellsOf81 rfl (fun m hm cs x h hs => op_81 m cs x h hs) h hs
  exact ⟨A, c, l, e3, hlc, hC⟩
set_option maxRecDepth 100000 in
/-- A value in its row's cells. -/
theorem op_val {fuel : Nat} {cs : List Value} {x : DataW H × List MemPlace} (h : DataW.trod enc Try.prog W base spare held fuel 81 cs = some x) (hs : Small 81 x.1) : ∃ (y : S81) (A : Option Addr) (c : Nat), cs = [.int .i64 y.f0, .int .i64 y.f1, .string y.f2, .slice A y.f3.length c] ∧ y.f3.length ≤ c ∧ k81.C W A y.f3.length y.f3 := by
  obtain ⟨y, hy, _⟩ := op_81 fuel cs x h hs
  obtain ⟨A, c, h1, h2, h3⟩ := k81_open hy
  exact ⟨y, A, c, h1, h2, h3⟩
set_option maxRecDepth 100000 in
theorem op_83 (fuel : Nat) (cs : List Value) (x : DataW H × List MemPlace) (h : DataW.trod enc Try.prog W base spare held fuel 83 cs = some x) (hs : Small 83 x.1) : ∃ y : S83, k83.K W y cs ∧ lenR y := by
  obtain ⟨xs, n, rfl, rfl, hl, hxl, hf⟩ := DataW.trod_struct Try.underlying83 h
  rw [cellsOf83] at hl
  match xs, hxl, cs, hl with
  | [y0, y1, y2], _, [c0, c1, c2, c3, c4, c5], _ =>
    have f0 : DataW.trod enc Try.prog W base spare held n 9 (List.take (Try.prog.cellsOf 9) (List.drop 0 [c0, c1, c2, c3, c4, c5])) = some y0 := hf 0 _ rfl
    have f1 : DataW.trod enc Try.prog W base spare held n 81 (List.take (Try.prog.cellsOf 81) (List.drop 1 [c0, c1, c2, c3, c4, c5])) = some y1 := hf 1 _ rfl
    have f2 : DataW.trod enc Try.prog W base spare held n 23 (List.take (Try.prog.cellsOf 23) (List.drop 5 [c0, c1, c2, c3, c4, c5])) = some y2 := hf 2 _ rfl
    simp only [cellsOf9, cellsOf81, cellsOf23] at f0 f1 f2
    obtain ⟨a0, e0, _, _⟩ := DataW.trod_string Try.underlying9 f0
    have hs1 : Small 81 y1.1 := fun m hm => hs m (by simp only [DataW.weights, Try.underlying83, List.map_cons, List.map_nil, DataW.weightsEach, List.mem_append]; exact .inr (.inl hm))
    have hs2 : Small 23 y2.1 := fun m hm => hs m (by simp only [DataW.weights, Try.underlying83, List.map_cons, List.map_nil, DataW.weightsEach, List.mem_append]; exact .inr (.inr (.inl hm)))
    obtain ⟨v, A1, d1, e1, hl1, hC1⟩ := op_val f1 hs1
    obtain ⟨A2, d2, l, e2, hl2, hC2, _, hw⟩ := op_ints f2 hs2
    simp at e0 e1 e2
    obtain ⟨e10, e11, e12, e13⟩ := e1
    subst e0 e10 e11 e12 e13 e2
    exact ⟨⟨a0, v, l⟩, k83_mk W ⟨a0, v, l⟩ hl1 hC1 hl2 hC2, by unfold lenR; show l.length ≤ _; unfold reachBytes at hw; omega⟩
theorem op_records {fuel : Nat} {cs : List Value} {x : DataW H × List MemPlace} (h : DataW.trod enc Try.prog W base spare held fuel 38 cs = some x) (hs : Small 38 x.1) : ∃ A c, ∃ xs : List S83, cs = [.slice A xs.length c] ∧ xs.length ≤ c ∧ k83.C W A xs.length xs ∧ ∀ y ∈ xs, lenR y := by
  obtain ⟨A, c, l, e3, hlc, hC, hq, _⟩ := op_slice (d := k83) (Q := lenR) Try.underlying38 cellsOf83 rfl (fun m hm cs x h hs => op_83 m cs x h hs) h hs
  exact ⟨A, c, l, e3, hlc, hC, hq⟩
set_option maxRecDepth 100000 in
theorem op_103 (fuel : Nat) (cs : List Value) (x : DataW H × List MemPlace) (h : DataW.trod enc Try.prog W base spare held fuel 103 cs = some x) (hs : Small 103 x.1) : ∃ y : S103, k103.K W y cs ∧ True := by
  obtain ⟨xs, n, rfl, rfl, hl, hxl, hf⟩ := DataW.trod_struct Try.underlying103 h
  rw [cellsOf103] at hl
  match xs, hxl, cs, hl with
  | [y0, y1], _, [c0, c1], _ =>
    have f0 : DataW.trod enc Try.prog W base spare held n 9 (List.take (Try.prog.cellsOf 9) (List.drop 0 [c0, c1])) = some y0 := hf 0 _ rfl
    have f1 : DataW.trod enc Try.prog W base spare held n 79 (List.take (Try.prog.cellsOf 79) (List.drop 1 [c0, c1])) = some y1 := hf 1 _ rfl
    simp only [cellsOf9, cellsOf79] at f0 f1
    obtain ⟨a0, e0, _, _⟩ := DataW.trod_string Try.underlying9 f0
    have hs1 : Small 79 y1.1 := fun m hm => hs m (by simp only [DataW.weights, Try.underlying103, List.map_cons, List.map_nil, DataW.weightsEach, List.mem_append]; exact .inr (.inl hm))
    obtain ⟨A1, d1, l, e1, hl1, hC1⟩ := op_values f1 hs1
    simp at e0 e1
    subst e0 e1
    exact ⟨⟨a0, l⟩, k103_mk W ⟨a0, l⟩ hl1 hC1, trivial⟩
theorem bytesOf103 : Try.prog.bytesOf 103 = 40 := by kernel_rfl
theorem bytesOf38 : Try.prog.bytesOf 38 = 24 := by kernel_rfl
theorem bytesOf57 : Try.prog.bytesOf 57 = 120 := by kernel_rfl
theorem cellsOf4 : Try.prog.cellsOf 4 = 1 := by kernel_rfl
theorem cellsOf34 : Try.prog.cellsOf 34 = 1 := by kernel_rfl
theorem cellsOf36 : Try.prog.cellsOf 36 = 2 := by kernel_rfl
theorem cellsOf37 : Try.prog.cellsOf 37 = 1 := by kernel_rfl
theorem cellsOf40 : Try.prog.cellsOf 40 = 4 := by kernel_rfl
theorem cellsOf57 : Try.prog.cellsOf 57 = 10 := by kernel_rfl
instance : Inhabited S36 := ⟨⟨0, []⟩⟩
instance : Inhabited S40 := ⟨⟨default, [], []⟩⟩
instance : Inhabited S57 := ⟨⟨0, false, false, 0, 0, default, false⟩⟩
theorem op_cells {fuel : Nat} {cs : List Value} {x : DataW H × List MemPlace} (h : DataW.trod enc Try.prog W base spare held fuel 34 cs = some x) (hs : Small 34 x.1) : ∃ A c, ∃ xs : List S103, cs = [.slice A xs.length c] ∧ xs.length ≤ c ∧ k103.C W A xs.length xs ∧ (∀ y ∈ xs, (fun _ => True) y) ∧ xs.length ≤ 20000000000000 := by
  obtain ⟨A, c, l, e3, hlc, hC, hq, hB⟩ := op_slice (d := k103) (Q := (fun _ => True)) Try.underlying34 cellsOf103 rfl (fun m hm cs x h hs => op_103 m cs x h hs) h hs
  refine ⟨A, c, l, e3, hlc, hC, hq, ?_⟩
  rw [bytesOf103] at hB
  unfold reachBytes at hB
  omega
theorem op_lists {fuel : Nat} {cs : List Value} {x : DataW H × List MemPlace} (h : DataW.trod enc Try.prog W base spare held fuel 37 cs = some x) (hs : Small 37 x.1) : ∃ A c, ∃ xs : List (List S83), cs = [.slice A xs.length c] ∧ xs.length ≤ c ∧ (Kd.slice 83 k83).C W A xs.length xs ∧ (∀ y ∈ xs, (fun z => ∀ y ∈ z, lenR y) y) ∧ xs.length ≤ 20000000000000 := by
  obtain ⟨A, c, l, e3, hlc, hC, hq, hB⟩ := op_slice (d := (Kd.slice 83 k83)) (Q := (fun z => ∀ y ∈ z, lenR y)) Try.underlying37 cellsOf38 rfl (fun m hm cs x h hs => by obtain ⟨A, c, xs, e, h1, h2, h3⟩ := op_records h hs; exact ⟨xs, ⟨A, c, e, h1, h2⟩, h3⟩) h hs
  refine ⟨A, c, l, e3, hlc, hC, hq, ?_⟩
  rw [bytesOf38] at hB
  unfold reachBytes at hB
  omega
set_option maxRecDepth 100000 in
theorem op_36 (fuel : Nat) (cs : List Value) (x : DataW H × List MemPlace) (h : DataW.trod enc Try.prog W base spare held fuel 36 cs = some x) (hs : Small 36 x.1) : ∃ y : S36, k36.K W y cs ∧ (fun _ => True) y := by
  obtain ⟨xs, n, rfl, rfl, hl, hxl, hf⟩ := DataW.trod_struct Try.underlying36 h
  rw [cellsOf36] at hl
  match xs, hxl, cs, hl with
  | [y0, y1], _, [c0, c1], _ =>
    have f0 : DataW.trod enc Try.prog W base spare held n 3 (List.take (Try.prog.cellsOf 3) (List.drop 0 [c0, c1])) = some y0 := hf 0 _ rfl
    have f1 : DataW.trod enc Try.prog W base spare held n 34 (List.take (Try.prog.cellsOf 34) (List.drop 1 [c0, c1])) = some y1 := hf 1 _ rfl
    simp only [cellsOf3, cellsOf34] at f0 f1
    obtain ⟨a0, e0, _, _⟩ := DataW.trod_int Try.underlying3 f0
    have hs1 : Small 34 y1.1 := fun m hm => hs m (by simp only [DataW.weights, Try.underlying36, List.map_cons, List.map_nil, DataW.weightsEach, List.mem_append]; exact .inr (.inl hm))
    obtain ⟨A1, d1, l, e1, hl1, hC1, _, _⟩ := op_cells f1 hs1
    simp at e0 e1
    subst e0 e1
    exact ⟨⟨a0, l⟩, k36_mk W ⟨a0, l⟩ hl1 hC1, trivial⟩
set_option maxRecDepth 100000 in
theorem op_40 (fuel : Nat) (cs : List Value) (x : DataW H × List MemPlace) (h : DataW.trod enc Try.prog W base spare held fuel 40 cs = some x) (hs : Small 40 x.1) : ∃ y : S40, k40.K W y cs ∧ lenP y := by
  obtain ⟨xs, n, rfl, rfl, hl, hxl, hf⟩ := DataW.trod_struct Try.underlying40 h
  rw [cellsOf40] at hl
  match xs, hxl, cs, hl with
  | [y0, y1, y2], _, [c0, c1, c2, c3], _ =>
    have f0 : DataW.trod enc Try.prog W base spare held n 36 (List.take (Try.prog.cellsOf 36) (List.drop 0 [c0, c1, c2, c3])) = some y0 := hf 0 _ rfl
    have f1 : DataW.trod enc Try.prog W base spare held n 37 (List.take (Try.prog.cellsOf 37) (List.drop 2 [c0, c1, c2, c3])) = some y1 := hf 1 _ rfl
    have f2 : DataW.trod enc Try.prog W base spare held n 38 (List.take (Try.prog.cellsOf 38) (List.drop 3 [c0, c1, c2, c3])) = some y2 := hf 2 _ rfl
    simp only [cellsOf36, cellsOf37, cellsOf38] at f0 f1 f2
    have hs0 : Small 36 y0.1 := fun m hm => hs m (by simp only [DataW.weights, Try.underlying40, List.map_cons, List.map_nil, DataW.weightsEach, List.mem_append]; exact .inl hm)
    obtain ⟨s, hs_, _⟩ := op_36 _ _ _ f0 hs0
    have hs1 : Small 37 y1.1 := fun m hm => hs m (by simp only [DataW.weights, Try.underlying40, List.map_cons, List.map_nil, DataW.weightsEach, List.mem_append]; exact .inr (.inl hm))
    obtain ⟨A2, d2, u, e2, hl2, hC2, hq2, _⟩ := op_lists f1 hs1
    have hs2 : Small 38 y2.1 := fun m hm => hs m (by simp only [DataW.weights, Try.underlying40, List.map_cons, List.map_nil, DataW.weightsEach, List.mem_append]; exact .inr (.inr (.inl hm)))
    obtain ⟨A3, d3, v, e3, hl3, hC3, hq3⟩ := op_records f2 hs2
    obtain ⟨A1, d1, e1, hl1, hC1⟩ := k36_open hs_
    simp at e1 e2 e3
    obtain ⟨e10, e11⟩ := e1
    subst e10 e11 e2 e3
    exact ⟨⟨s, u, v⟩, k40_mk W ⟨s, u, v⟩ hl1 hC1 hl2 hC2 hl3 hC3, hq3, hq2⟩
set_option maxRecDepth 100000 in
theorem op_57 (fuel : Nat) (cs : List Value) (x : DataW H × List MemPlace) (h : DataW.trod enc Try.prog W base spare held fuel 57 cs = some x) (hs : Small 57 x.1) : ∃ y : S57, k57.K W y cs ∧ lenO y := by
  obtain ⟨xs, n, rfl, rfl, hl, hxl, hf⟩ := DataW.trod_struct Try.underlying57 h
  rw [cellsOf57] at hl
  match xs, hxl, cs, hl with
  | [y0, y1, y2, y3, y4, y5, y6], _, [c0, c1, c2, c3, c4, c5, c6, c7, c8, c9], _ =>
    have f0 : DataW.trod enc Try.prog W base spare held n 3 (List.take (Try.prog.cellsOf 3) (List.drop 0 [c0, c1, c2, c3, c4, c5, c6, c7, c8, c9])) = some y0 := hf 0 _ rfl
    have f1 : DataW.trod enc Try.prog W base spare held n 4 (List.take (Try.prog.cellsOf 4) (List.drop 1 [c0, c1, c2, c3, c4, c5, c6, c7, c8, c9])) = some y1 := hf 1 _ rfl
    have f2 : DataW.trod enc Try.prog W base spare held n 4 (List.take (Try.prog.cellsOf 4) (List.drop 2 [c0, c1, c2, c3, c4, c5, c6, c7, c8, c9])) = some y2 := hf 2 _ rfl
    have f3 : DataW.trod enc Try.prog W base spare held n 3 (List.take (Try.prog.cellsOf 3) (List.drop 3 [c0, c1, c2, c3, c4, c5, c6, c7, c8, c9])) = some y3 := hf 3 _ rfl
    have f4 : DataW.trod enc Try.prog W base spare held n 3 (List.take (Try.prog.cellsOf 3) (List.drop 4 [c0, c1, c2, c3, c4, c5, c6, c7, c8, c9])) = some y4 := hf 4 _ rfl
    have f5 : DataW.trod enc Try.prog W base spare held n 40 (List.take (Try.prog.cellsOf 40) (List.drop 5 [c0, c1, c2, c3, c4, c5, c6, c7, c8, c9])) = some y5 := hf 5 _ rfl
    have f6 : DataW.trod enc Try.prog W base spare held n 4 (List.take (Try.prog.cellsOf 4) (List.drop 9 [c0, c1, c2, c3, c4, c5, c6, c7, c8, c9])) = some y6 := hf 6 _ rfl
    simp only [cellsOf3, cellsOf4, cellsOf40] at f0 f1 f2 f3 f4 f5 f6
    obtain ⟨a0, e0, _, _⟩ := DataW.trod_int Try.underlying3 f0
    obtain ⟨a1, e1, _⟩ := DataW.trod_bool Try.underlying4 f1
    obtain ⟨a2, e2, _⟩ := DataW.trod_bool Try.underlying4 f2
    obtain ⟨a3, e3, _, w3⟩ := DataW.trod_int Try.underlying3 f3
    obtain ⟨a4, e4, _, _⟩ := DataW.trod_int Try.underlying3 f4
    have hs5 : Small 40 y5.1 := fun m hm => hs m (by simp only [DataW.weights, Try.underlying57, List.map_cons, List.map_nil, DataW.weightsEach, List.mem_append]; exact .inr (.inr (.inr (.inr (.inr (.inl hm))))))
    obtain ⟨p, hp, hq⟩ := op_40 _ _ _ f5 hs5
    obtain ⟨a6, e6, _⟩ := DataW.trod_bool Try.underlying4 f6
    obtain ⟨A6, d6, A7, d7, A8, d8, e5, hl6, hC6, hl7, hC7, hl8, hC8⟩ := k40_open hp
    simp at e0 e1 e2 e3 e4 e5 e6
    obtain ⟨e50, e51, e52, e53⟩ := e5
    subst e0 e1 e2 e3 e4 e50 e51 e52 e53 e6
    exact ⟨⟨a0, a1, a2, a3, a4, p, a6⟩, k57_mk W ⟨a0, a1, a2, a3, a4, p, a6⟩ hl6 hC6 hl7 hC7 hl8 hC8, hq, w3⟩
theorem op_script {fuel : Nat} {cs : List Value} {x : DataW H × List MemPlace} (h : DataW.trod enc Try.prog W base spare held fuel 50 cs = some x) (hs : Small 50 x.1) : ∃ A c, ∃ xs : List S57, cs = [.slice A xs.length c] ∧ xs.length ≤ c ∧ k57.C W A xs.length xs ∧ (∀ y ∈ xs, lenO y) ∧ xs.length ≤ 20000000000000 := by
  obtain ⟨A, c, l, e3, hlc, hC, hq, hB⟩ := op_slice (d := k57) (Q := lenO) Try.underlying50 cellsOf57 rfl (fun m hm cs x h hs => op_57 m cs x h hs) h hs
  refine ⟨A, c, l, e3, hlc, hC, hq, ?_⟩
  rw [bytesOf57] at hB
  unfold reachBytes at hB
  omega
end
end Go.Proofs.Ytcbaiplamaopeaa.PPostShots
