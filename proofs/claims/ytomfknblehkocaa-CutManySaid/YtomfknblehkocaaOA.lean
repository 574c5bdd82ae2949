/- What the rows' arguments are: a list of calls, opened. -/
import Derived.Test.YtomfknblehkocaaIN
import Derived.Deep.Slices
import Derived.SizedLaws
namespace Go.Proofs.Ytomfknblehkocaa.C
open Go.RowKit Go.Proofs.YtomfknblehkocaaW.PrintWords Go.Proofs.YtomfknblehkocaaW.PrintLast
set_option linter.unusedVariables false
set_option linter.unusedSimpArgs false
section
variable {H : Type} {enc : TypeId × Value → H} {W : World} {base : Nat} {spare : Nat → Bool} {held : Bool}
def Small (t : TypeId) (d : DataW H) : Prop := ∀ n ∈ DataW.weights Try.prog t d, n ≤ reachBytes
theorem weights_all {e : TypeId} {l : List (DataW H)} {d : DataW H} (h : d ∈ l) {n : Nat} (hn : n ∈ DataW.weights Try.prog e d) : n ∈ DataW.weightsAll Try.prog e l := by
  induction l with
  | nil => cases h
  | cons a l ih =>
    rw [DataW.weightsAll, List.mem_append]
    rcases List.mem_cons.1 h with rfl | h
    · exact .inl hn
    · exact .inr (ih h)
theorem op_slice {α : Type} [Inhabited α] {t e B fuel : Nat} {d : Kd α} {Q : α → Prop} (ht : Try.prog.underlying t = some (.slice e)) (hc : Try.prog.cellsOf e = d.sz) (hB : Try.prog.bytesOf e = B)
    (elem : ∀ n, n < fuel → ∀ cs x, DataW.trod enc Try.prog W base spare held n e cs = some x → Small e x.1 → ∃ y, d.K W y cs ∧ Q y)
    {cs : List Value} {x : DataW H × List MemPlace} (h : DataW.trod enc Try.prog W base spare held fuel t cs = some x) (hs : Small t x.1) :
    ∃ A c, ∃ xs : List α, cs = [.slice A xs.length c] ∧ xs.length ≤ c ∧ d.C W A xs.length xs ∧ (∀ y ∈ xs, Q y) ∧ xs.length * B ≤ reachBytes := by
  rcases DataW.trod_slice ht h with ⟨rfl, rfl⟩ | ⟨a, len, cap, elems, rest, n, rfl, rfl, rfl, hb, hl, hm, hlen, hel, hsp, hns⟩
  · exact ⟨none, 0, [], rfl, Nat.le_refl _, ⟨rfl, by simp, fun h => absurd h (Nat.lt_irrefl 0)⟩, fun y hy => (by cases hy), by simp⟩
  · have hw : ∀ d ∈ elems.map (·.1), Small e d := fun d hd m hm => hs m (by
      simp only [DataW.weights, ht]
      exact List.mem_cons_of_mem _ (List.mem_append_left _ (weights_all hd hm)))
    have hwt : len * B ≤ reachBytes := by
      have := hs ((elems.map (·.1)).length * Try.prog.bytesOf e + (rest.map (·.1)).length * Try.prog.bytesOf e) (by
        simp only [DataW.weights, ht, Nat.add_mul]
        exact List.mem_cons_self)
      rw [List.length_map, hlen, hB] at this
      omega
    obtain ⟨f, hf⟩ := Deep.choose_lt (α := α) (n := len) (p := fun i y => ∃ cs', W.cells? base (a.add (i * Try.prog.cellsOf e)) (Try.prog.cellsOf e) = some cs' ∧ d.K W y cs' ∧ Q y) (fun i hi => by
      have h1 := hel i hi
      have hi' : i < elems.length := by omega
      rw [List.getElem?_eq_getElem hi'] at h1
      obtain ⟨cs', h2, h3⟩ := Option.bind_eq_some_iff.1 h1
      obtain ⟨y, hy, hq⟩ := elem n (Nat.lt_succ_self n) cs' _ h3 (hw _ (List.mem_map_of_mem (List.getElem_mem hi')))
      exact ⟨y, cs', h2, hy, hq⟩)
    have hxl : ((List.range len).map f).length = len := by simp
    refine ⟨some a, cap, (List.range len).map f, by rw [hxl], by rw [hxl]; exact hl, ?_, ?_, by rw [hxl]; exact hwt⟩
    · rw [hxl]
      refine ⟨hxl, Nat.le_trans (Nat.le_trans hl hm) (by decide), fun _ => ⟨a, rfl, fun j p hp => ?_⟩⟩
      have hj : j < len := by
        have := (List.getElem?_eq_some_iff.1 hp).1
        rw [hxl] at this
        exact this
      obtain ⟨cs', h1, h2, _⟩ := hf j hj
      have hpj : f j = p := by
        rw [List.getElem?_map, List.getElem?_range hj] at hp
        simpa using hp
      rw [hpj] at h2
      rw [hc] at h1
      obtain ⟨_, h3, h4⟩ := World.cells?_some h1
      refine ⟨cs', h3, h2, fun i u hu => ?_⟩
      have hi : i < d.sz := by rw [← h3]; exact (List.getElem?_eq_some_iff.1 hu).1
      rw [← Deep.add_add, h4 i hi, hu]
    · intro y hy
      obtain ⟨j, hj, rfl⟩ := List.mem_map.1 hy
      obtain ⟨_, _, _, hq⟩ := hf j (List.mem_range.1 hj)
      exact hq
theorem cellsOf3 : Try.prog.cellsOf 3 = 1 := by kernel_rfl
theorem cellsOf2 : Try.prog.cellsOf 2 = 1 := by kernel_rfl
theorem cellsOf9 : Try.prog.cellsOf 9 = 1 := by kernel_rfl
theorem cellsOf32 : Try.prog.cellsOf 32 = 1 := by kernel_rfl
theorem cellsOf35 : Try.prog.cellsOf 35 = 1 := by kernel_rfl
theorem cellsOf40 : Try.prog.cellsOf 40 = 1 := by kernel_rfl
theorem cellsOf43 : Try.prog.cellsOf 43 = 1 := by kernel_rfl
theorem cellsOf34 : Try.prog.cellsOf 34 = 2 := by kernel_rfl
theorem cellsOf42 : Try.prog.cellsOf 42 = 4 := by kernel_rfl
theorem cellsOf45 : Try.prog.cellsOf 45 = 6 := by kernel_rfl
theorem cellsOf104 : Try.prog.cellsOf 104 = 2 := by kernel_rfl
theorem cellsOf47 : Try.prog.cellsOf 47 = 14 := by kernel_rfl
instance : Inhabited S42 := ⟨⟨0, 0, ⟨#[]⟩, []⟩⟩
instance : Inhabited S104 := ⟨⟨⟨#[]⟩, []⟩⟩
instance : Inhabited S45 := ⟨⟨⟨#[]⟩, default, []⟩⟩
instance : Inhabited S34 := ⟨⟨0, []⟩⟩
instance : Inhabited S47 := ⟨⟨0, 0, 0, 0, default, [], [], default⟩⟩
theorem op_ints {fuel : Nat} {cs : List Value} {x : DataW H × List MemPlace} (h : DataW.trod enc Try.prog W base spare held fuel 43 cs = some x) (hs : Small 43 x.1) :
    ∃ A c, ∃ xs : List Int, cs = [.slice A xs.length c] ∧ xs.length ≤ c ∧ (Kd.int .i64).C W A xs.length xs ∧ (∀ y ∈ xs, True) ∧ xs.length * 8 ≤ reachBytes :=
  op_slice (d := Kd.int .i64) Try.underlying43 cellsOf3 (by kernel_rfl) (fun n _ cs x h _ => by
    obtain ⟨m, rfl, _, _⟩ := DataW.trod_int Try.underlying3 h
    exact ⟨m, rfl, trivial⟩) h hs
set_option maxRecDepth 100000 in
theorem op_42 : ∀ (fuel : Nat) (cs : List Value) (x : DataW H × List MemPlace), DataW.trod enc Try.prog W base spare held fuel 42 cs = some x → Small 42 x.1 → ∃ y : S42, k42.K W y cs ∧ True := by
  intro fuel
  induction fuel using Nat.strongRecOn with
  | _ fuel ih =>
    intro cs x h hs
    obtain ⟨xs, n, rfl, rfl, hl, hxl, hf⟩ := DataW.trod_struct Try.underlying42 h
    rw [cellsOf42] at hl
    match xs, hxl, cs, hl with
    | [y0, y1, y2, y3], _, [c0, c1, c2, c3], _ =>
      have f0 : DataW.trod enc Try.prog W base spare held n 3 (List.take (Try.prog.cellsOf 3) (List.drop 0 [c0, c1, c2, c3])) = some y0 := hf 0 _ rfl
      have f1 : DataW.trod enc Try.prog W base spare held n 2 (List.take (Try.prog.cellsOf 2) (List.drop 1 [c0, c1, c2, c3])) = some y1 := hf 1 _ rfl
      have f2 : DataW.trod enc Try.prog W base spare held n 9 (List.take (Try.prog.cellsOf 9) (List.drop 2 [c0, c1, c2, c3])) = some y2 := hf 2 _ rfl
      have f3 : DataW.trod enc Try.prog W base spare held n 40 (List.take (Try.prog.cellsOf 40) (List.drop 3 [c0, c1, c2, c3])) = some y3 := hf 3 _ rfl
      simp only [cellsOf3, cellsOf2, cellsOf9, cellsOf40] at f0 f1 f2 f3
      obtain ⟨a0, e0, _, _⟩ := DataW.trod_int Try.underlying3 f0
      obtain ⟨a1, e1, _, _⟩ := DataW.trod_int Try.underlying2 f1
      obtain ⟨a2, e2, _, _⟩ := DataW.trod_string Try.underlying9 f2
      have hs3 : Small 40 y3.1 := fun m hm => hs m (by simp only [DataW.weights, Try.underlying42, List.map_cons, List.map_nil, DataW.weightsEach, List.mem_append]; exact .inr (.inr (.inr (.inl hm))))
      obtain ⟨A, c, l, e3, hlc, hC, _, _⟩ := op_slice (d := k42) (Q := fun _ => True) Try.underlying40 cellsOf42 rfl (fun m hm cs x h hs => ih m (Nat.lt_succ_of_lt hm) cs x h hs) f3 hs3
      simp at e0 e1 e2 e3
      subst e0 e1 e2 e3
      exact ⟨⟨a0, a1, a2, l⟩, k42_mk W ⟨a0, a1, a2, l⟩ hlc hC, trivial⟩
set_option maxRecDepth 100000 in
theorem op_values {fuel : Nat} {cs : List Value} {x : DataW H × List MemPlace} (h : DataW.trod enc Try.prog W base spare held fuel 40 cs = some x) (hs : Small 40 x.1) : ∃ A c, ∃ xs : List S42, cs = [.slice A xs.length c] ∧ xs.length ≤ c ∧ k42.C W A xs.length xs := by
  obtain ⟨A, c, l, e3, hlc, hC, _, _⟩ := op_slice (d := k42) (Q := fun _ => True) Try.underlying40 cellsOf42 rfl (fun m hm cs x h hs => op_42 m cs x h hs) h hs
  exact ⟨A, c, l, e3, hlc, hC⟩
set_option maxRecDepth 100000 in
/-- A value in its row's cells. -/
theorem op_val {fuel : Nat} {cs : List Value} {x : DataW H × List MemPlace} (h : DataW.trod enc Try.prog W base spare held fuel 42 cs = some x) (hs : Small 42 x.1) : ∃ (y : S42) (A : Option Addr) (c : Nat), cs = [.int .i64 y.f0, .int .i64 y.f1, .string y.f2, .slice A y.f3.length c] ∧ y.f3.length ≤ c ∧ k42.C W A y.f3.length y.f3 := by
  obtain ⟨y, hy, _⟩ := op_42 fuel cs x h hs
  obtain ⟨A, c, h1, h2, h3⟩ := k42_open hy
  exact ⟨y, A, c, h1, h2, h3⟩
set_option maxRecDepth 100000 in
theorem op_45 (fuel : Nat) (cs : List Value) (x : DataW H × List MemPlace) (h : DataW.trod enc Try.prog W base spare held fuel 45 cs = some x) (hs : Small 45 x.1) : ∃ y : S45, k45.K W y cs ∧ lenR y := by
  obtain ⟨xs, n, rfl, rfl, hl, hxl, hf⟩ := DataW.trod_struct Try.underlying45 h
  rw [cellsOf45] at hl
  match xs, hxl, cs, hl with
  | [y0, y1, y2], _, [c0, c1, c2, c3, c4, c5], _ =>
    have f0 : DataW.trod enc Try.prog W base spare held n 9 (List.take (Try.prog.cellsOf 9) (List.drop 0 [c0, c1, c2, c3, c4, c5])) = some y0 := hf 0 _ rfl
    have f1 : DataW.trod enc Try.prog W base spare held n 42 (List.take (Try.prog.cellsOf 42) (List.drop 1 [c0, c1, c2, c3, c4, c5])) = some y1 := hf 1 _ rfl
    have f2 : DataW.trod enc Try.prog W base spare held n 43 (List.take (Try.prog.cellsOf 43) (List.drop 5 [c0, c1, c2, c3, c4, c5])) = some y2 := hf 2 _ rfl
    simp only [cellsOf9, cellsOf42, cellsOf43] at f0 f1 f2
    obtain ⟨a0, e0, _, _⟩ := DataW.trod_string Try.underlying9 f0
    have hs1 : Small 42 y1.1 := fun m hm => hs m (by simp only [DataW.weights, Try.underlying45, List.map_cons, List.map_nil, DataW.weightsEach, List.mem_append]; exact .inr (.inl hm))
    have hs2 : Small 43 y2.1 := fun m hm => hs m (by simp only [DataW.weights, Try.underlying45, List.map_cons, List.map_nil, DataW.weightsEach, List.mem_append]; exact .inr (.inr (.inl hm)))
    obtain ⟨v, A1, d1, e1, hl1, hC1⟩ := op_val f1 hs1
    obtain ⟨A2, d2, l, e2, hl2, hC2, _, hw⟩ := op_ints f2 hs2
    simp at e0 e1 e2
    obtain ⟨e10, e11, e12, e13⟩ := e1
    subst e0 e10 e11 e12 e13 e2
    exact ⟨⟨a0, v, l⟩, k45_mk W ⟨a0, v, l⟩ hl1 hC1 hl2 hC2, by unfold lenR; show l.length ≤ _; unfold reachBytes at hw; omega⟩
theorem op_records {fuel : Nat} {cs : List Value} {x : DataW H × List MemPlace} (h : DataW.trod enc Try.prog W base spare held fuel 35 cs = some x) (hs : Small 35 x.1) : ∃ A c, ∃ xs : List S45, cs = [.slice A xs.length c] ∧ xs.length ≤ c ∧ k45.C W A xs.length xs ∧ ∀ y ∈ xs, lenR y := by
  obtain ⟨A, c, l, e3, hlc, hC, hq, _⟩ := op_slice (d := k45) (Q := lenR) Try.underlying35 cellsOf45 rfl (fun m hm cs x h hs => op_45 m cs x h hs) h hs
  exact ⟨A, c, l, e3, hlc, hC, hq⟩
set_option maxRecDepth 100000 in
theorem op_104 (fuel : Nat) (cs : List Value) (x : DataW H × List MemPlace) (h : DataW.trod enc Try.prog W base spare held fuel 104 cs = some x) (hs : Small 104 x.1) : ∃ y : S104, k104.K W y cs ∧ True := by
  obtain ⟨xs, n, rfl, rfl, hl, hxl, hf⟩ := DataW.trod_struct Try.underlying104 h
  rw [cellsOf104] at hl
  match xs, hxl, cs, hl with
  | [y0, y1], _, [c0, c1], _ =>
    have f0 : DataW.trod enc Try.prog W base spare held n 9 (List.take (Try.prog.cellsOf 9) (List.drop 0 [c0, c1])) = some y0 := hf 0 _ rfl
    have f1 : DataW.trod enc Try.prog W base spare held n 40 (List.take (Try.prog.cellsOf 40) (List.drop 1 [c0, c1])) = some y1 := hf 1 _ rfl
    simp only [cellsOf9, cellsOf40] at f0 f1
    obtain ⟨a0, e0, _, _⟩ := DataW.trod_string Try.underlying9 f0
    have hs1 : Small 40 y1.1 := fun m hm => hs m (by simp only [DataW.weights, Try.underlying104, List.map_cons, List.map_nil, DataW.weightsEach, List.mem_append]; exact .inr (.inl hm))
    obtain ⟨A1, d1, l, e1, hl1, hC1⟩ := op_values f1 hs1
    simp at e0 e1
    subst e0 e1
    exact ⟨⟨a0, l⟩, k104_mk W ⟨a0, l⟩ hl1 hC1, trivial⟩
set_option maxRecDepth 100000 in
theorem op_state {fuel : Nat} {cs : List Value} {x : DataW H × List MemPlace} (h : DataW.trod enc Try.prog W base spare held fuel 34 cs = some x) (hs : Small 34 x.1) : ∃ (y : S34) (A : Option Addr) (c : Nat), cs = [.int .i64 y.f0, .slice A y.f1.length c] ∧ y.f1.length ≤ c ∧ k104.C W A y.f1.length y.f1 := by
  obtain ⟨xs, n, rfl, rfl, hl, hxl, hf⟩ := DataW.trod_struct Try.underlying34 h
  rw [cellsOf34] at hl
  match xs, hxl, cs, hl with
  | [y0, y1], _, [c0, c1], _ =>
    have f0 : DataW.trod enc Try.prog W base spare held n 3 (List.take (Try.prog.cellsOf 3) (List.drop 0 [c0, c1])) = some y0 := hf 0 _ rfl
    have f1 : DataW.trod enc Try.prog W base spare held n 32 (List.take (Try.prog.cellsOf 32) (List.drop 1 [c0, c1])) = some y1 := hf 1 _ rfl
    simp only [cellsOf3, cellsOf32] at f0 f1
    obtain ⟨a0, e0, _, _⟩ := DataW.trod_int Try.underlying3 f0
    have hs1 : Small 32 y1.1 := fun m hm => hs m (by simp only [DataW.weights, Try.underlying34, List.map_cons, List.map_nil, DataW.weightsEach, List.mem_append]; exact .inr (.inl hm))
    obtain ⟨A, c, l, e1, hlc, hC, _, _⟩ := op_slice (d := k104) (Q := fun _ => True) Try.underlying32 cellsOf104 rfl (fun m hm cs x h hs => op_104 m cs x h hs) f1 hs1
    simp at e0 e1
    subst e0 e1
    exact ⟨⟨a0, l⟩, A, c, rfl, hlc, hC⟩
set_option maxRecDepth 100000 in
theorem op_47 (fuel : Nat) (cs : List Value) (x : DataW H × List MemPlace) (h : DataW.trod enc Try.prog W base spare held fuel 47 cs = some x) (hs : Small 47 x.1) : ∃ y : S47, k47.K W y cs ∧ lenO y := by
  obtain ⟨xs, n, rfl, rfl, hl, hxl, hf⟩ := DataW.trod_struct Try.underlying47 h
  rw [cellsOf47] at hl
  match xs, hxl, cs, hl with
  | [y0, y1, y2, y3, y4, y5, y6, y7], _, [c0, c1, c2, c3, c4, c5, c6, c7, c8, c9, c10, c11, c12, c13], _ =>
    have f0 : DataW.trod enc Try.prog W base spare held n 3 (List.take (Try.prog.cellsOf 3) (List.drop 0 [c0, c1, c2, c3, c4, c5, c6, c7, c8, c9, c10, c11, c12, c13])) = some y0 := hf 0 _ rfl
    have f1 : DataW.trod enc Try.prog W base spare held n 3 (List.take (Try.prog.cellsOf 3) (List.drop 1 [c0, c1, c2, c3, c4, c5, c6, c7, c8, c9, c10, c11, c12, c13])) = some y1 := hf 1 _ rfl
    have f2 : DataW.trod enc Try.prog W base spare held n 3 (List.take (Try.prog.cellsOf 3) (List.drop 2 [c0, c1, c2, c3, c4, c5, c6, c7, c8, c9, c10, c11, c12, c13])) = some y2 := hf 2 _ rfl
    have f3 : DataW.trod enc Try.prog W base spare held n 3 (List.take (Try.prog.cellsOf 3) (List.drop 3 [c0, c1, c2, c3, c4, c5, c6, c7, c8, c9, c10, c11, c12, c13])) = some y3 := hf 3 _ rfl
    have f4 : DataW.trod enc Try.prog W base spare held n 45 (List.take (Try.prog.cellsOf 45) (List.drop 4 [c0, c1, c2, c3, c4, c5, c6, c7, c8, c9, c10, c11, c12, c13])) = some y4 := hf 4 _ rfl
    have f5 : DataW.trod enc Try.prog W base spare held n 35 (List.take (Try.prog.cellsOf 35) (List.drop 10 [c0, c1, c2, c3, c4, c5, c6, c7, c8, c9, c10, c11, c12, c13])) = some y5 := hf 5 _ rfl
    have f6 : DataW.trod enc Try.prog W base spare held n 35 (List.take (Try.prog.cellsOf 35) (List.drop 11 [c0, c1, c2, c3, c4, c5, c6, c7, c8, c9, c10, c11, c12, c13])) = some y6 := hf 6 _ rfl
    have f7 : DataW.trod enc Try.prog W base spare held n 34 (List.take (Try.prog.cellsOf 34) (List.drop 12 [c0, c1, c2, c3, c4, c5, c6, c7, c8, c9, c10, c11, c12, c13])) = some y7 := hf 7 _ rfl
    simp only [cellsOf3, cellsOf45, cellsOf35, cellsOf34] at f0 f1 f2 f3 f4 f5 f6 f7
    obtain ⟨a0, e0, _, _⟩ := DataW.trod_int Try.underlying3 f0
    obtain ⟨a1, e1, _, _⟩ := DataW.trod_int Try.underlying3 f1
    obtain ⟨a2, e2, _, _⟩ := DataW.trod_int Try.underlying3 f2
    obtain ⟨a3, e3, _, _⟩ := DataW.trod_int Try.underlying3 f3
    have hs4 : Small 45 y4.1 := fun m hm => hs m (by simp only [DataW.weights, Try.underlying47, List.map_cons, List.map_nil, DataW.weightsEach, List.mem_append]; exact .inr (.inr (.inr (.inr (.inl hm)))))
    have hs5 : Small 35 y5.1 := fun m hm => hs m (by simp only [DataW.weights, Try.underlying47, List.map_cons, List.map_nil, DataW.weightsEach, List.mem_append]; exact .inr (.inr (.inr (.inr (.inr (.inl hm))))))
    have hs6 : Small 35 y6.1 := fun m hm => hs m (by simp only [DataW.weights, Try.underlying47, List.map_cons, List.map_nil, DataW.weightsEach, List.mem_append]; exact .inr (.inr (.inr (.inr (.inr (.inr (.inl hm)))))))
    have hs7 : Small 34 y7.1 := fun m hm => hs m (by simp only [DataW.weights, Try.underlying47, List.map_cons, List.map_nil, DataW.weightsEach, List.mem_append]; exact .inr (.inr (.inr (.inr (.inr (.inr (.inr (.inl hm))))))))
    obtain ⟨r, hr, hlr⟩ := op_45 _ _ _ f4 hs4
    obtain ⟨A8, d8, A9, d9, e4, hl8, hC8, hl9, hC9⟩ := k45_open hr
    obtain ⟨A10, d10, u, e5, hl10, hC10, hq10⟩ := op_records f5 hs5
    obtain ⟨A11, d11, v, e6, hl11, hC11, hq11⟩ := op_records f6 hs6
    obtain ⟨s, A13, d13, e7, hl13, hC13⟩ := op_state f7 hs7
    simp at e0 e1 e2 e3 e4 e5 e6 e7
    obtain ⟨e40, e41, e42, e43, e44, e45⟩ := e4
    obtain ⟨e70, e71⟩ := e7
    subst e0 e1 e2 e3 e40 e41 e42 e43 e44 e45 e5 e6 e70 e71
    exact ⟨⟨a0, a1, a2, a3, r, u, v, s⟩, k47_mk W ⟨a0, a1, a2, a3, r, u, v, s⟩ hl8 hC8 hl9 hC9 hl10 hC10 hl11 hC11 hl13 hC13, hlr, hq10, hq11⟩
theorem op_script {fuel : Nat} {cs : List Value} {x : DataW H × List MemPlace} (h : DataW.trod enc Try.prog W base spare held fuel 22 cs = some x) (hs : Small 22 x.1) : ∃ A c, ∃ xs : List S47, cs = [.slice A xs.length c] ∧ xs.length ≤ c ∧ k47.C W A xs.length xs ∧ ∀ y ∈ xs, lenO y := by
  obtain ⟨A, c, l, e3, hlc, hC, hq, _⟩ := op_slice (d := k47) (Q := lenO) Try.underlying22 cellsOf47 rfl (fun m hm cs x h hs => op_47 m cs x h hs) h hs
  exact ⟨A, c, l, e3, hlc, hC, hq⟩
end
end Go.Proofs.Ytomfknblehkocaa.C
