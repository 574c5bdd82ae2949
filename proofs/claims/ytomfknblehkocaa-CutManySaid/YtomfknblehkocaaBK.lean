/- The book: what its memory says; fresh, known, Held, shut, Now. -/
import Derived.Test.YtomfknblehkocaaSZ
import Derived.Test.YtomfknblehkocaaOR
namespace Go.Proofs.Ytomfknblehkocaa.C
open Go.RowKit Go.Proofs.YtomfknblehkocaaW.PrintWords Go.Proofs.YtomfknblehkocaaW.PrintLast
set_option linter.unusedVariables false
set_option linter.unusedSimpArgs false

theorem made_one (z : Value) (m : Nat) : madeCells #[z] m = (List.replicate m z).toArray := by
  apply Array.ext'
  apply List.ext_getElem
  · simp [madeCells]
  · intro i h1 h2
    simp [madeCells, Nat.mod_one]
def FreshAns (n : Nat) (w : World) (e : Ending) (w' : World) : Prop := ∃ gp gl, gp ≠ gl ∧ w.heap.size ≤ gp ∧ w.heap.size ≤ gl ∧
  e = .returned (.agg #[.slice (some ⟨gp, 0, none⟩) n n, .slice (some ⟨gl, 0, none⟩) n n, .bool false, .bool false, .int .i64 0, .slice none 0 0, .slice none 0 0]) ∧
  w'.heap[gp]? = some (.cells (List.replicate n (.int .i64 0)).toArray 3 (0, 0)) ∧ w'.heap[gl]? = some (.cells (List.replicate n (.slice none 0 0)).toArray 35 (0, 0)) ∧ Below w.heap.size w w'
set_option maxRecDepth 100000 in
set_option maxHeartbeats 4000000 in
theorem fresh33 (n : Nat) (hn : n ≤ 4) (w : World) : Calls Try.prog 33 #[.int .i64 n] w fun e w' => FreshAns n w e w' := by
  have hm1 := run_make_row' (P := Try.prog) 43 3 (.int .i64 0) 8 Try.underlying43 info3 rfl .i64 .i64 n (by omega) (by omega)
  have hm2 := run_make_row' (P := Try.prog) 53 35 (.slice none 0 0) 24 Try.underlying53 info35 rfl .i64 .i64 n (by omega) (by omega)
  go_enter Try.func33, Try.ntmps33
  go_wp2
  go_region
  all_goals go_wp2
  · refine bodyPost_ret (results_cell_row rfl _ _ w.heap.size 75 #[.slice (some ⟨w.heap.size + 1, 0, none⟩) n n, .slice (some ⟨w.heap.size + 1 + 1, 0, none⟩) n n, .bool false, .bool false, .int .i64 0, .slice none 0 0, .slice none 0 0] (0, 0) _ rfl (blk_alloc (blk_alloc (blk_new w _) _) _) Try.underlying75 rfl (by kernel_rfl)) rfl ⟨w.heap.size + 1, w.heap.size + 1 + 1, by omega, by omega, by omega, rfl, ?_, ?_, ?_⟩
    · rw [← made_one]
      have := blk_alloc (blk_new (w.alloc (.cells #[.slice (some ⟨w.heap.size + 1, 0, none⟩) n n, .slice (some ⟨w.heap.size + 1 + 1, 0, none⟩) n n, .bool false, .bool false, .int .i64 0, .slice none 0 0, .slice none 0 0] 75)) (.cells (madeCells #[.int .i64 0] n) 3)) (.cells (madeCells #[.slice none 0 0] n) 35)
      simp only [World.size_alloc] at this
      exact this
    · rw [← made_one]
      have := blk_new ((w.alloc (.cells #[.slice (some ⟨w.heap.size + 1, 0, none⟩) n n, .slice (some ⟨w.heap.size + 1 + 1, 0, none⟩) n n, .bool false, .bool false, .int .i64 0, .slice none 0 0, .slice none 0 0] 75)).alloc (.cells (madeCells #[.int .i64 0] n) 3)) (.cells (madeCells #[.slice none 0 0] n) 35)
      simp only [World.size_alloc] at this
      exact this
    · exact ((((Below.refl _ _).alloc (Nat.le_refl _) _).alloc (by simp) _).alloc (by simp; omega) _).drew
  · refine bodyPost_ret (results_cell_row rfl _ _ w.heap.size 75 #[.slice (some ⟨w.heap.size + 1 + 1, 0, none⟩) n n, .slice (some ⟨w.heap.size + 1, 0, none⟩) n n, .bool false, .bool false, .int .i64 0, .slice none 0 0, .slice none 0 0] (0, 0) _ rfl (blk_alloc (blk_alloc (blk_new w _) _) _) Try.underlying75 rfl (by kernel_rfl)) rfl ⟨w.heap.size + 1 + 1, w.heap.size + 1, by omega, by omega, by omega, rfl, ?_, ?_, ?_⟩
    · rw [← made_one]
      have := blk_new ((w.alloc (.cells #[.slice (some ⟨w.heap.size + 1 + 1, 0, none⟩) n n, .slice (some ⟨w.heap.size + 1, 0, none⟩) n n, .bool false, .bool false, .int .i64 0, .slice none 0 0, .slice none 0 0] 75)).alloc (.cells (madeCells #[.slice none 0 0] n) 35)) (.cells (madeCells #[.int .i64 0] n) 3)
      simp only [World.size_alloc] at this
      exact this
    · rw [← made_one]
      have := blk_alloc (blk_new (w.alloc (.cells #[.slice (some ⟨w.heap.size + 1 + 1, 0, none⟩) n n, .slice (some ⟨w.heap.size + 1, 0, none⟩) n n, .bool false, .bool false, .int .i64 0, .slice none 0 0, .slice none 0 0] 75)) (.cells (madeCells #[.slice none 0 0] n) 35)) (.cells (madeCells #[.int .i64 0] n) 3)
      simp only [World.size_alloc] at this
      exact this
    · exact ((((Below.refl _ _).alloc (Nat.le_refl _) _).alloc (by simp) _).alloc (by simp; omega) _).drew

/-- A book, as the program has it. -/
structure Bk where
  mode : Int
  back : Int
  now : Int
  ports : List Int
  logs : List (List S45)
  copied : Bool
  given : Bool
  st : S34
  pend : List S45
/-- A book in memory, at block g. own: whose block it is: 1 the book's own, 2 the ports', 3 the logs', 4 the state's, 5 the pending output's, 6 + i the log's of port i; 0: none of the book's. -/
structure BkAt (w : World) (base : Nat) (own : Nat → Nat) (g : Nat) (b : Bk) (gp gl : Nat) (vc vd : Value) (lv : List Value) : Prop where
  hb : w.heap[g]? = some (.cells #[.int .i64 b.mode, .int .i64 b.back, .int .i64 b.now, .slice (some ⟨gp, 0, none⟩) b.ports.length b.ports.length, .slice (some ⟨gl, 0, none⟩) b.ports.length b.ports.length, .bool b.copied, .bool b.given, .int .i64 b.st.f0, vc, vd] 78 (0, 0))
  hp : w.heap[gp]? = some (.cells (nums .i64 b.ports).toArray 3 (0, 0))
  hl : w.heap[gl]? = some (.cells lv.toArray 35 (0, 0))
  ll : lv.length = b.ports.length
  lb : b.logs.length = b.ports.length
  lp : b.ports.length ≤ 4
  rl : ∀ i, i < b.ports.length → Kd.R k45 45 w base (fun k => own k = 6 + i) (lv.getD i (.slice none 0 0)) (b.logs.getD i [])
  rc : Kd.R k104 104 w base (fun k => own k = 4) vc b.st.f1
  rd : Kd.R k45 45 w base (fun k => own k = 5) vd b.pend
  og : own g = 1
  op : own gp = 2
  ol : own gl = 3
  lo : ∀ k, own k ≠ 0 → base ≤ k ∧ k < w.heap.size
/-- Nothing but the owner's blocks has turned; what is new may be the owner's. -/
structure Upd (own : Nat → Nat) (w : World) (own' : Nat → Nat) (w' : World) : Prop where
  os : w'.os = w.os
  tape : w'.tape = w.tape
  output : w'.output = w.output
  size : w.heap.size ≤ w'.heap.size
  same : ∀ k, k < w.heap.size → own k = 0 → own' k = 0
  block : ∀ k, k < w.heap.size → own k = 0 → w'.heap[k]? = w.heap[k]?
theorem Upd.refl (own : Nat → Nat) (w : World) : Upd own w own w := ⟨rfl, rfl, rfl, Nat.le_refl _, fun _ _ h => h, fun _ _ _ => rfl⟩
theorem Upd.trans {o1 o2 o3 : Nat → Nat} {a b c : World} (h : Upd o1 a o2 b) (k : Upd o2 b o3 c) : Upd o1 a o3 c :=
  ⟨k.os.trans h.os, k.tape.trans h.tape, k.output.trans h.output, Nat.le_trans h.size k.size, fun i hi ho => k.same i (Nat.lt_of_lt_of_le hi h.size) (h.same i hi ho), fun i hi ho => (k.block i (Nat.lt_of_lt_of_le hi h.size) (h.same i hi ho)).trans (h.block i hi ho)⟩
theorem Upd.below {o1 o2 : Nat → Nat} {w w' : World} (h : Upd o1 w o2 w') {B : Nat} (hB : B ≤ w.heap.size) (ho : ∀ k, k < B → o1 k = 0) : Below B w w' := ⟨h.os, h.tape, h.output, h.size, fun k hk => h.block k (by omega) (ho k hk)⟩
/-- The cell of a port. -/
theorem BkAt.port {w : World} {base : Nat} {own : Nat → Nat} {g : Nat} {b : Bk} {gp gl : Nat} {vc vd : Value} {lv : List Value} (h : BkAt w base own g b gp gl vc vd lv) (i : Nat) (hi : i < b.ports.length) : w.cell? ⟨gp, i, none⟩ = some (.int .i64 (b.ports.getD i 0)) := by
  refine blk_at h.hp i ?_
  simp [nums, List.getElem?_eq_getElem hi, List.getD_eq_getElem?_getD]
def Bk.knows (b : Bk) (port : Int) : Bool := decide (0 ≤ port) && decide (port < b.ports.length)
def Bk.held (b : Bk) (port : Int) : Bool := b.knows port && b.mode == 1 && decide (0 < b.now) && !b.copied && b.ports.getD port.toNat 0 == 1
def Bk.shutB (b : Bk) (but : Int) : Bool := (List.range b.ports.length).all fun i => !(b.ports.getD i 0 == 0 && (i : Int) != but)
section
variable {w : World} {base : Nat} {own : Nat → Nat} {g : Nat} {b : Bk} {gp gl : Nat} {vc vd : Value} {lv : List Value}
theorem known39 (h : BkAt w base own g b gp gl vc vd lv) (port : Int) : Calls Try.prog 39 #[.pointer (some ⟨g, 0, none⟩), .int .i64 port] w fun e w' => e = .returned (.bool (b.knows port)) ∧ w = w' := by
  have h3 : w.cell? ⟨g, 3, none⟩ = some (.slice (some ⟨gp, 0, none⟩) b.ports.length b.ports.length) := blk_at h.hb 3 rfl
  unfold Bk.knows
  clear h
  by_cases h0 : 0 ≤ port
  · have d0 : decide (0 ≤ port) = true := decide_eq_true h0
    go_enter Try.func39, Try.ntmps39
    go_wp2
    go_ret
    exact ⟨by simp [h0], rfl⟩
  · have d0 : decide (0 ≤ port) = false := decide_eq_false h0
    go_enter Try.func39, Try.ntmps39
    go_wp2
    go_ret
    exact ⟨by simp [d0], rfl⟩
theorem now25 (h : BkAt w base own g b gp gl vc vd lv) : Calls Try.prog 25 #[.pointer (some ⟨g, 0, none⟩)] w fun e w' => e = .returned (.int .i64 b.now) ∧ w = w' := by
  have h2 : w.cell? ⟨g, 2, none⟩ = some (.int .i64 b.now) := blk_at h.hb 2 rfl
  clear h
  go_enter Try.func25, Try.ntmps25
  go_wp2
  go_ret
  exact ⟨rfl, rfl⟩
end
end Go.Proofs.Ytomfknblehkocaa.C
