/- The iterator 'merged' over cells: what it hands out, and that it does. -/
import Derived.Test.YtpplnhefpcofoaaZRB
import Derived.Test.YtpplnhefpcofoaaZT
namespace Go.Proofs.Ytpplnhefpcofoaa.PDeltaJoin
open Go.RowKit Go.Proofs.YtpplnhefpcofoaaW.PrintWords Go.Proofs.YtpplnhefpcofoaaW.PrintLast
set_option linter.unusedVariables false
set_option linter.unusedSimpArgs false
/-- 'a <= b' of two keys. -/
def kle (a b : ByteArray) : Bool := Op.bytesLess a.toList b.toList || a.toList == b.toList
/-- What lay below n₀ lies as it lay, but for the blocks X. -/
structure KpX (n₀ : Nat) (X : Nat → Prop) (W W' : World) : Prop where
  os : W'.os = W.os
  tape : W'.tape = W.tape
  output : W'.output = W.output
  size : W.heap.size ≤ W'.heap.size
  block : ∀ k, k < n₀ → ¬ X k → W'.heap[k]? = W.heap[k]?
section
variable {n₀ : Nat} {X : Nat → Prop} {W W1 W2 : World}
theorem KpX.refl (W : World) : KpX n₀ X W W := ⟨rfl, rfl, rfl, Nat.le_refl _, fun _ _ _ => rfl⟩
theorem KpX.trans (h : KpX n₀ X W W1) (k : KpX n₀ X W1 W2) : KpX n₀ X W W2 := ⟨k.os.trans h.os, k.tape.trans h.tape, k.output.trans h.output, Nat.le_trans h.size k.size, fun i hi hx => (k.block i hi hx).trans (h.block i hi hx)⟩
theorem KpX.of_below {B : Nat} (h : Below B W W1) (hB : n₀ ≤ B) : KpX n₀ X W W1 := ⟨h.os, h.tape, h.output, h.size, fun k hk _ => h.block k (by omega)⟩
theorem KpX.putObj (W : World) (l : Nat) (o : Obj) (hl : n₀ ≤ l) : KpX n₀ X W (W.putObj l o) :=
  have g := grownBy_putObj' W l o
  ⟨g.os, g.tape, g.output, g.size, fun k hk _ => World.putObj_heap_other (by omega)⟩
theorem KpX.below (h : KpX n₀ X W W1) {w0 : World} (hb : Below w0.heap.size w0 W) (h0 : w0.heap.size ≤ n₀) (hX : ∀ k, X k → w0.heap.size ≤ k) : Below w0.heap.size w0 W1 :=
  ⟨h.os.trans hb.os, h.tape.trans hb.tape, h.output.trans hb.output, Nat.le_trans hb.size h.size, fun k hk => (h.block k (by omega) (fun hx => by have := hX k hx; omega)).trans (hb.block k hk)⟩
theorem KpX.boxed (h : KpX n₀ X W W1) {b : Nat} {t : TypeId} {v : Value} (hb : Boxed W b t v) (hl : b < n₀) (hx : ¬ X b) : Boxed W1 b t v := (h.block b hl hx).trans hb
end
theorem Boxed.below' {W W1 : World} {b : Nat} {t : TypeId} {v : Value} (h : Boxed W b t v) (hb : Below W.heap.size W W1) : Boxed W1 b t v := (hb.block b h.lt).trans h
/-- A call of a function value. -/
theorem goesV_ {P : Program} {Q : Exit → Act → World → Prop} {oi : Oper} {ops : Array Oper} {N : Option Tmp} {a : Act} {w : World} {K : Act → World → Prop} {f : FuncId} {fn : Func} {as_ : Array Operand} {ts : Array TypeId} {t : Tmp} (hf : P.funcs[f]? = some fn) (hname : (fn.name == "runtime.NumGoroutine") = false) (hb : fn.body.isSome = true) (args : Array Value)
    (hw : Region.wanted oi (yielded ops a.tmps) = true) (hN : oi.dst = N) (hop : oi.op = .call { callee := .value (.tmp t), args := as_, argTypes := ts }) (hfv : a.eval (.tmp t) = .func (.func f) #[] #[]) (hargs : as_.map a.eval = args)
    (h : Calls P f args w fun e w' => ∃ v, e = .returned v ∧ K (a.put N v) w') : if Region.wanted oi (yielded ops a.tmps) = true then Oper.wp P oi a w K Q else K (a.put N undef) w := by
  refine call_ f args hw hN ?_ h
  have he := enters_ hf hname hb args w
  unfold execOp
  have ha : as_.map a.eval = args := hargs
  simp [hop, resolve, Deferred.ofValue, invoke, hfv, ha, he]
theorem bytesLess_lt : ∀ (x y : List UInt8), Op.bytesLess x y = decide (x < y)
  | [], [] => by simp [Op.bytesLess]
  | _ :: _, [] => by simp [Op.bytesLess]
  | [], _ :: _ => by simp [Op.bytesLess]
  | a :: x, b :: y => by
    rw [Op.bytesLess, bytesLess_lt x y]
    simp only [List.cons_lt_cons_iff]
    by_cases h1 : a < b <;> by_cases h2 : a = b <;> by_cases h3 : x < y <;> simp [h1, h2, h3]
theorem kle_total {a b : ByteArray} (h : kle a b = false) : kle b a = true := by
  unfold kle at h ⊢
  rw [bytesLess_lt] at h ⊢
  simp only [Bool.or_eq_false_iff, decide_eq_false_iff_not, Bool.or_eq_true, decide_eq_true_eq] at h ⊢
  rcases Std.lt_trichotomy a.toList b.toList with h1 | h1 | h1
  · exact absurd h1 h.1
  · simp [h1] at h
  · exact .inl h1
/-- What stands at one key. -/
structure MPC where
  l : S63
  r : S63
  isL : Bool
  isR : Bool
/-- The two lists, key by key. -/
def mrgC : List S63 → List S63 → List MPC
  | [], [] => []
  | x :: a, [] => ⟨x, z63, true, false⟩ :: mrgC a []
  | [], y :: b => ⟨z63, y, false, true⟩ :: mrgC [] b
  | x :: a, y :: b => if kle x.f0 y.f0 = true then (if kle y.f0 x.f0 = true then ⟨x, y, true, true⟩ :: mrgC a b else ⟨x, z63, true, false⟩ :: mrgC a (y :: b)) else ⟨z63, y, false, true⟩ :: mrgC (x :: a) b
termination_by a b => a.length + b.length
theorem mrgC_l (x : S63) (a : List S63) : mrgC (x :: a) [] = ⟨x, z63, true, false⟩ :: mrgC a [] := by rw [mrgC]
theorem mrgC_r (y : S63) (b : List S63) : mrgC [] (y :: b) = ⟨z63, y, false, true⟩ :: mrgC [] b := by rw [mrgC]
theorem mrgC_both (x y : S63) (a b : List S63) (h1 : kle x.f0 y.f0 = true) (h2 : kle y.f0 x.f0 = true) : mrgC (x :: a) (y :: b) = ⟨x, y, true, true⟩ :: mrgC a b := by rw [mrgC, if_pos h1, if_pos h2]
theorem mrgC_left (x y : S63) (a b : List S63) (h1 : kle x.f0 y.f0 = true) (h2 : kle y.f0 x.f0 = false) : mrgC (x :: a) (y :: b) = ⟨x, z63, true, false⟩ :: mrgC a (y :: b) := by rw [mrgC, if_pos h1, if_neg (by simp [h2])]
theorem mrgC_right (x y : S63) (a b : List S63) (h1 : kle x.f0 y.f0 = false) : mrgC (x :: a) (y :: b) = ⟨z63, y, false, true⟩ :: mrgC (x :: a) b := by rw [mrgC, if_neg (by simp [h1])]
theorem mrgC_nil : mrgC [] [] = [] := by rw [mrgC]
theorem drop_getD_C (l : List S63) (k : Nat) (h : k < l.length) : l.drop k = l.getD k z63 :: l.drop (k + 1) := by
  rw [List.drop_eq_getElem_cons h, List.getD_eq_getElem?_getD, List.getElem?_eq_getElem h]
  rfl
/-- One of them, with the addresses that came in by w0. -/
structure PVC (w0 : World) where
  p : MPC
  la : Option Addr
  lc : Nat
  ra : Option Addr
  rc : Nat
  hl : p.l.f1.length ≤ lc
  cl : Kd.C k87 w0 la p.l.f1.length p.l.f1
  hr : p.r.f1.length ≤ rc
  cr : Kd.C k87 w0 ra p.r.f1.length p.r.f1
def encC {w0 : World} (x : PVC w0) : Array Value := #[.agg #[.string x.p.l.f0, .slice x.la x.p.l.f1.length x.lc, .string x.p.r.f0, .slice x.ra x.p.r.f1.length x.rc, .bool x.p.isL, .bool x.p.isR]]
theorem C_none87 (w : World) : Kd.C k87 w none z63.f1.length z63.f1 := Kd.C_nil k87 w
set_option maxRecDepth 100000 in
set_option maxHeartbeats 8000000 in
theorem key36 (x : ByteArray) (A : Option Addr) (n c : Nat) (w : World) : Calls Try.prog 36 #[.agg #[.string x, .slice A n c]] w fun e w' => e = .returned (.string x) ∧ Hid (Below w.heap.size w w') := by
  have HB : Hid (Below w.heap.size w (w.alloc (.cells #[.string x, .slice A n c] 63))) := (Below.refl _ _).alloc (Nat.le_refl _) _
  have HX := Lib.hid (blk_new w (.cells #[.string x, .slice A n c] 63))
  have x0 : (w.alloc (.cells #[.string x, .slice A n c] 63)).cell? ⟨w.heap.size, 0, none⟩ = some (.string x) := blk_at HX.out 0 rfl
  go_enter Try.func36, Try.ntmps36
  go_wp2_with (fail)
  go_ret
  exact ⟨rfl, HB⟩
/-- merged: the closure and its boxes. -/
def Made35 (A B : Option Addr) (n m ca cb : Nat) (w : World) (e : Ending) (w' : World) : Prop :=
  e = .returned (.func (.func 51) #[] #[.pointer (some ⟨w.heap.size, 0, none⟩), .pointer (some ⟨w.heap.size + 1, 0, none⟩), .pointer (some ⟨w.heap.size + 2, 0, none⟩)]) ∧
    Hid (Boxed w' w.heap.size 22 (.slice A n ca)) ∧ Hid (Boxed w' (w.heap.size + 1) 22 (.slice B m cb)) ∧ Hid (Boxed w' (w.heap.size + 2) 69 (.func (.func 36) #[] #[])) ∧ Hid (Below w.heap.size w w') ∧ w'.heap.size = w.heap.size + 3
set_option maxRecDepth 100000 in
set_option maxHeartbeats 8000000 in
theorem merged35 (A B : Option Addr) (n m ca cb : Nat) (w : World) : Calls Try.prog 35 #[.slice A n ca, .slice B m cb, .func (.func 36) #[] #[]] w fun e w' => Made35 A B n m ca cb w e w' := by
  go_enter Try.func35, Try.ntmps35
  go_wp2_with (fail)
  go_ret
  have b1 := ((Boxed.new w 22 (.slice A n ca)).alloc (.cells #[.slice B m cb] 22)).alloc (.cells #[.func (.func 36) #[] #[]] 69)
  have b2 := (Boxed.new (w.alloc (.cells #[.slice A n ca] 22)) 22 (.slice B m cb)).alloc (.cells #[.func (.func 36) #[] #[]] 69)
  have b3 := Boxed.new ((w.alloc (.cells #[.slice A n ca] 22)).alloc (.cells #[.slice B m cb] 22)) 69 (.func (.func 36) #[] #[])
  simp only [World.size_alloc] at b2 b3
  exact ⟨rfl, b1, b2, b3, (((Below.refl _ w).alloc (Nat.le_refl _) _).alloc (by simp) _).alloc (by simp; omega) _, by simp⟩
def IterC {w0 : World} (a b : List S63) (J Jx : List (PVC w0) → World → Prop) (e : Ending) (W' : World) : Prop :=
  (∃ v, e = .returned v) ∧ ((∃ xs, xs.map PVC.p = mrgC a b ∧ J xs W') ∨ (∃ pre, (∃ rest, pre.map PVC.p ++ rest = mrgC a b) ∧ Jx pre W'))
set_option maxRecDepth 100000 in
set_option maxHeartbeats 8000000 in
theorem iter51 {w0 : World} (a b : List S63) (A B : Option Addr) (ca cb : Nat) (hA : Kd.C k63 w0 A a.length a) (hB : Kd.C k63 w0 B b.length b) (W : World) (hW : Below w0.heap.size w0 W) (b1 b2 b3 n₀ l n : Nat) (X : Nat → Prop) (J Jx : List (PVC w0) → World → Prop) (hJ : AbidesFrom W.heap.size J)
    (h1 : Boxed W b1 22 (.slice A a.length ca)) (h2 : Boxed W b2 22 (.slice B b.length cb)) (h3 : Boxed W b3 69 (.func (.func 36) #[] #[])) (hl : b1 < n₀ ∧ ¬ X b1 ∧ b2 < n₀ ∧ ¬ X b2 ∧ b3 < n₀ ∧ ¬ X b3) (hn0 : n₀ ≤ W.heap.size) (hn1 : w0.heap.size ≤ n₀) (hX : ∀ k, X k → w0.heap.size ≤ k)
    (hY : ∀ pre x W1, J pre W1 → (∃ rest, pre.map PVC.p ++ x.p :: rest = mrgC a b) → YieldAt Fence.wide n Try.prog l (encC x) W1 fun e W' => (e = .returned (.bool true) ∧ J (pre ++ [x]) W' ∧ KpX n₀ X W1 W') ∨ (e = .returned (.bool false) ∧ Jx (pre ++ [x]) W')) (hJ0 : J [] W) :
    Calls Try.prog 51 #[.func (.yield l) #[] #[], .pointer (some ⟨b1, 0, none⟩), .pointer (some ⟨b2, 0, none⟩), .pointer (some ⟨b3, 0, none⟩)] W fun e W' => IterC a b J Jx e W' := by
  obtain ⟨n, hn⟩ : ∃ n, a.length = n := ⟨_, rfl⟩
  obtain ⟨m, hm⟩ : ∃ m, b.length = m := ⟨_, rfl⟩
  rename_i n0
  have Hn := Lib.hid hn
  have Hm := Lib.hid hm
  rw [hn] at hA h1
  rw [hm] at hB h2
  have HA := Lib.hid hA
  have HBB := Lib.hid hB
  have HBW := Lib.hid hW
  have HJ := Lib.hid hJ
  have H1 := Lib.hid h1
  have H2 := Lib.hid h2
  have H3 := Lib.hid h3
  have HL := Lib.hid hl
  have HN0 := Lib.hid hn0
  have HN1 := Lib.hid hn1
  have HX := Lib.hid hX
  have HY := Lib.hid hY
  have hnm : n ≤ 9223372036854775807 := Kd.C_max hA
  have hmm : m ≤ 9223372036854775807 := Kd.C_max hB
  clear hA hB hW hJ h1 h2 h3 hl hn0 hn1 hX hY hn hm
  go_enter Try.func51, Try.ntmps51
  go_wp2_with (fail)
  go_loopw [5, 6, 7] (fun v5 v6 v7 wr => ∃ (i j : Nat) (pre : List (PVC w0)), i ≤ n ∧ j ≤ m ∧ v5 = .int .i64 i ∧ v6 = .int .i64 j ∧ Hid (pre.map PVC.p ++ mrgC (a.drop i) (b.drop j) = mrgC a b) ∧ Hid (J pre wr) ∧ Hid (KpX n₀ X W wr)) (fun v5 v6 _ _ => (n - (intOf v5).toNat) + (m - (intOf v6).toNat))
  case atStart => exact ⟨0, 0, [], Nat.zero_le _, Nat.zero_le _, rfl, rfl, rfl, hJ0, KpX.refl _⟩
  case round =>
    clear hJ0
    obtain ⟨i, j, pre, hi, hj, rfl, rfl, HR, HJs, HK⟩ := hrel
    have i0 : (0 : Int) ≤ (i : Int) := by omega
    have j0 : (0 : Int) ≤ (j : Int) := by omega
    by_cases hin : i < n
    · by_cases hjm : j < m
      · obtain ⟨ade, Ae, ce, hAe, ge0, ge1, hle, hCe⟩ := at_T63 HA.out (i : Int) (by omega) (by omega)
        subst hAe
        have HDA : Hid (a.drop i = rd_T63 a (i : Int) :: a.drop (i + 1)) := drop_getD_C _ _ (by rw [Hn.out]; omega)
        generalize rd_T63 a (i : Int) = x at *
        rw [Int.toNat_natCast] at ge0 ge1
        obtain ⟨adf, Af, cf, hAf, gf0, gf1, hlf, hCf⟩ := at_T63 HBB.out (j : Int) (by omega) (by omega)
        subst hAf
        have HDB : Hid (b.drop j = rd_T63 b (j : Int) :: b.drop (j + 1)) := drop_getD_C _ _ (by rw [Hm.out]; omega)
        generalize rd_T63 b (j : Int) = y at *
        rw [Int.toNat_natCast] at gf0 gf1
        have i1 : (i : Int) < (n : Int) := by omega
        have j1 : (j : Int) < (m : Int) := by omega
        have j2 : ((j : Int) == (m : Int)) = false := by simp; omega
        have j3 : ((i : Int) == (n : Int)) = false := by simp; omega
        have HB : Hid (Below wr.heap.size wr wr) := Below.refl _ _
        have HKW : Hid (KpX n₀ X W wr) := HK.out.trans (KpX.of_below HB.out (Nat.le_trans HN0.out HK.out.size))
        have HW0 : Hid (Below w0.heap.size w0 wr) := HKW.out.below HBW.out HN1.out HX.out
        have c1 : wr.cell? ⟨b1, 0, none⟩ = some (.slice (some ade) n ca) := (HKW.out.boxed H1.out HL.out.1 HL.out.2.1).cell
        have c2 : wr.cell? ⟨b2, 0, none⟩ = some (.slice (some adf) m cb) := (HKW.out.boxed H2.out HL.out.2.2.1 HL.out.2.2.2.1).cell
        have c3 : wr.cell? ⟨b3, 0, none⟩ = some (.func (.func 36) #[] #[]) := (HKW.out.boxed H3.out HL.out.2.2.2.2.1 HL.out.2.2.2.2.2).cell
        have e0 := pw_cell_below HW0.out ge0
        have e1 := pw_cell_below HW0.out ge1
        have f0 := pw_cell_below HW0.out gf0
        have f1 := pw_cell_below HW0.out gf1
        clear HKW HW0
        clear HB
        have HXp : Hid ((wr.alloc (.cells #[.string ⟨#[]⟩, .slice none 0 0, .string ⟨#[]⟩, .slice none 0 0, .bool false, .bool false] 71)).heap[wr.heap.size]? = some (.cells #[.string ⟨#[]⟩, .slice none 0 0, .string ⟨#[]⟩, .slice none 0 0, .bool false, .bool false] 71 (0, 0))) := Lib.hid (blk_new wr _)
        have HB : Hid (Below wr.heap.size wr (wr.alloc (.cells #[.string ⟨#[]⟩, .slice none 0 0, .string ⟨#[]⟩, .slice none 0 0, .bool false, .bool false] 71))) := (Below.refl _ _).alloc (Nat.le_refl _) _
        go_upto_region 3 with (fail)
        clear c1 c2 c3 e0 e1 f0 f1
        generalize wr.alloc (.cells #[.string ⟨#[]⟩, .slice none 0 0, .string ⟨#[]⟩, .slice none 0 0, .bool false, .bool false] 71) = wc at *
        obtain ⟨p, hp⟩ : ∃ p, p = wr.heap.size := ⟨_, rfl⟩
        rw [← hp] at HXp ⊢
        have HP := HXp
        have HPE := Lib.hid hp
        clear HXp hp
        have HKW : Hid (KpX n₀ X W wc) := HK.out.trans (KpX.of_below HB.out (Nat.le_trans HN0.out HK.out.size))
        have HW0 : Hid (Below w0.heap.size w0 wc) := HKW.out.below HBW.out HN1.out HX.out
        have c1 : wc.cell? ⟨b1, 0, none⟩ = some (.slice (some ade) n ca) := (HKW.out.boxed H1.out HL.out.1 HL.out.2.1).cell
        have c2 : wc.cell? ⟨b2, 0, none⟩ = some (.slice (some adf) m cb) := (HKW.out.boxed H2.out HL.out.2.2.1 HL.out.2.2.2.1).cell
        have c3 : wc.cell? ⟨b3, 0, none⟩ = some (.func (.func 36) #[] #[]) := (HKW.out.boxed H3.out HL.out.2.2.2.2.1 HL.out.2.2.2.2.2).cell
        have e0 := pw_cell_below HW0.out ge0
        have e1 := pw_cell_below HW0.out ge1
        have f0 := pw_cell_below HW0.out gf0
        have f1 := pw_cell_below HW0.out gf1
        clear HKW HW0
        refine start_ (n := 27) (S := (fun w' => w'.cell? ⟨b1, 0, none⟩ = some (.slice (some ade) n ca) ∧ w'.cell? ⟨b2, 0, none⟩ = some (.slice (some adf) m cb) ∧ w'.cell? ⟨b3, 0, none⟩ = some (.func (.func 36) #[] #[]) ∧ w'.cell? (ade.add (i * 2)) = some (.string x.f0) ∧ w'.cell? ⟨(ade.add (i * 2)).block, (ade.add (i * 2)).off + 1, none⟩ = some (.slice Ae x.f1.length ce) ∧ w'.cell? (adf.add (j * 2)) = some (.string y.f0) ∧ w'.cell? ⟨(adf.add (j * 2)).block, (adf.add (j * 2)).off + 1, none⟩ = some (.slice Af y.f1.length cf))) (ds := [26]) #[false, false, false, false, false, false, false, false, false, false, false, false, false, false, false, false, false, false, false, false, false, false, false, false, false, false, false] (by kernel_rfl) rfl rfl ⟨c1, c2, c3, e0, e1, f0, f1⟩ (fun hHeld => ?_)
        have HBd : Hid (Below wr.heap.size wr wc.drew) := HB.out.drew
        have HPd : Hid (wc.drew.heap[p]? = some (.cells #[.string ⟨#[]⟩, .slice none 0 0, .string ⟨#[]⟩, .slice none 0 0, .bool false, .bool false] 71 (0, 0))) := HP.out
        clear HB HP
        generalize wc.drew = W0 at hHeld HBd HPd ⊢
        clear c1 c2 c3 e0 e1 f0 f1
        refine pure_ (i := 0) (N := some 18) (v := ?_) (a' := ?_) #[true, false, false, false, false, false, false, false, false, false, false, false, false, false, false, false, false, false, false, false, false, false, false, false, false, false, false] rfl rfl (by kernel_rfl) (fun _ _ _ h => h) (Or.inl ⟨by rfl, ?_⟩) ?_ ?_
        rotate_left
        · intro w'
          go_simp
          with_reducible rfl
        rotate_left
        · go_simp
          rfl
        refine take_ (i := 1) (N := some 19) (v := ?_) (a' := ?_) #[true, true, false, false, false, false, false, false, false, false, false, false, false, false, false, false, false, false, false, false, false, false, false, false, false, false, false] rfl rfl (by kernel_rfl) (fun _ _ _ h => h) (Or.inl ⟨by rfl, ?_⟩) hHeld ?_ ?_
        rotate_left
        · rintro w' ⟨s0, s1, s2, s3, s4, s5, s6⟩
          go_simp
          with_reducible rfl
        rotate_left
        · go_simp
          rfl
        refine pure_ (i := 2) (N := some 20) (v := ?_) (a' := ?_) #[true, true, true, false, false, false, false, false, false, false, false, false, false, false, false, false, false, false, false, false, false, false, false, false, false, false, false] rfl rfl (by kernel_rfl) (fun _ _ _ h => h) (Or.inl ⟨by rfl, ?_⟩) ?_ ?_
        rotate_left
        · intro w'
          go_simp
          with_reducible rfl
        rotate_left
        · go_simp
          rfl
        refine pure_ (i := 3) (N := some 21) (v := ?_) (a' := ?_) #[true, true, true, true, false, false, false, false, false, false, false, false, false, false, false, false, false, false, false, false, false, false, false, false, false, false, false] rfl rfl (by kernel_rfl) (fun _ _ _ h => h) (Or.inl ⟨by rfl, ?_⟩) ?_ ?_
        rotate_left
        · intro w'
          go_simp
          with_reducible rfl
        rotate_left
        · go_simp
          rfl
        refine pure_ (i := 4) (N := some 22) (v := ?_) (a' := ?_) #[true, true, true, true, true, false, false, false, false, false, false, false, false, false, false, false, false, false, false, false, false, false, false, false, false, false, false] rfl rfl (by kernel_rfl) (fun _ _ _ h => h) (Or.inl ⟨by rfl, ?_⟩) ?_ ?_
        rotate_left
        · intro w'
          go_simp
          with_reducible rfl
        rotate_left
        · go_simp
          rfl
        refine pure_ (i := 5) (N := some 23) (v := ?_) (a' := ?_) #[true, true, true, true, true, true, false, false, false, false, false, false, false, false, false, false, false, false, false, false, false, false, false, false, false, false, false] rfl rfl (by kernel_rfl) (fun _ _ _ h => h) (Or.inl ⟨by rfl, ?_⟩) ?_ ?_
        rotate_left
        · intro w'
          go_simp
          with_reducible rfl
        rotate_left
        · go_simp
          rfl
        refine take_ (i := 6) (N := some 24) (v := ?_) (a' := ?_) #[true, true, true, true, true, true, true, false, false, false, false, false, false, false, false, false, false, false, false, false, false, false, false, false, false, false, false] rfl rfl (by kernel_rfl) (fun _ _ _ h => h) (Or.inl ⟨by rfl, ?_⟩) hHeld ?_ ?_
        rotate_left
        · rintro w' ⟨s0, s1, s2, s3, s4, s5, s6⟩
          go_simp
          with_reducible rfl
        rotate_left
        · go_simp
          rfl
        refine pure_ (i := 7) (N := some 25) (v := ?_) (a' := ?_) #[true, true, true, true, true, true, true, true, false, false, false, false, false, false, false, false, false, false, false, false, false, false, false, false, false, false, false] rfl rfl (by kernel_rfl) (fun _ _ _ h => h) (Or.inl ⟨by rfl, ?_⟩) ?_ ?_
        rotate_left
        · intro w'
          go_simp
          with_reducible rfl
        rotate_left
        · go_simp
          rfl
        refine pure_ (i := 8) (N := some 26) (v := ?_) (a' := ?_) #[true, true, true, true, true, true, true, true, true, false, false, false, false, false, false, false, false, false, false, false, false, false, false, false, false, false, false] rfl rfl (by kernel_rfl) (fun _ _ _ h => h) (Or.inl ⟨by rfl, ?_⟩) ?_ ?_
        rotate_left
        · intro w'
          go_simp
          with_reducible rfl
        rotate_left
        · go_simp
          rfl
        refine pure_ (i := 9) (N := some 27) (v := ?_) (a' := ?_) #[true, true, true, true, true, true, true, true, true, true, false, false, false, false, false, false, false, false, false, false, false, false, false, false, false, false, false] rfl rfl (by kernel_rfl) (fun _ _ _ h => h) (Or.inl ⟨by rfl, ?_⟩) ?_ ?_
        rotate_left
        · intro w'
          go_simp
          with_reducible rfl
        rotate_left
        · go_simp
          rfl
        refine take_ (i := 10) (N := some 28) (v := ?_) (a' := ?_) #[true, true, true, true, true, true, true, true, true, true, true, false, false, false, false, false, false, false, false, false, false, false, false, false, false, false, false] rfl rfl (by kernel_rfl) (fun _ _ _ h => h) (Or.inl ⟨by rfl, ?_⟩) hHeld ?_ ?_
        rotate_left
        · rintro w' ⟨s0, s1, s2, s3, s4, s5, s6⟩
          go_simp
          with_reducible rfl
        rotate_left
        · go_simp
          rfl
        refine take_ (i := 11) (N := some 29) (v := ?_) (a' := ?_) #[true, true, true, true, true, true, true, true, true, true, true, true, false, false, false, false, false, false, false, false, false, false, false, false, false, false, false] rfl rfl (by kernel_rfl) (fun _ _ _ h => h) (Or.inl ⟨by rfl, ?_⟩) hHeld ?_ ?_
        rotate_left
        · rintro w' ⟨s0, s1, s2, s3, s4, s5, s6⟩
          go_simp
          with_reducible rfl
        rotate_left
        · go_simp
          rfl
        refine pure_ (i := 12) (N := some 30) (v := ?_) (a' := ?_) #[true, true, true, true, true, true, true, true, true, true, true, true, true, false, false, false, false, false, false, false, false, false, false, false, false, false, false] rfl rfl (by kernel_rfl) (fun _ _ _ h => h) (Or.inl ⟨by rfl, ?_⟩) ?_ ?_
        rotate_left
        · intro w'
          go_simp
          with_reducible rfl
        rotate_left
        · go_simp
          rfl
        refine pure_ (i := 13) (N := some 31) (v := ?_) (a' := ?_) #[true, true, true, true, true, true, true, true, true, true, true, true, true, true, false, false, false, false, false, false, false, false, false, false, false, false, false] rfl rfl (by kernel_rfl) (fun _ _ _ h => h) (Or.inl ⟨by rfl, ?_⟩) ?_ ?_
        rotate_left
        · intro w'
          go_simp
          with_reducible rfl
        rotate_left
        · go_simp
          rfl
        refine take_ (i := 14) (N := some 32) (v := ?_) (a' := ?_) #[true, true, true, true, true, true, true, true, true, true, true, true, true, true, true, false, false, false, false, false, false, false, false, false, false, false, false] rfl rfl (by kernel_rfl) (fun _ _ _ h => h) (Or.inl ⟨by rfl, ?_⟩) hHeld ?_ ?_
        rotate_left
        · rintro w' ⟨s0, s1, s2, s3, s4, s5, s6⟩
          go_simp
          with_reducible rfl
        rotate_left
        · go_simp
          rfl
        refine take_ (i := 16) (N := some 34) (v := ?_) (a' := ?_) #[true, true, true, true, true, true, true, true, true, true, true, true, true, true, true, false, true, false, false, false, false, false, false, false, false, false, false] rfl rfl (by kernel_rfl) (fun _ _ _ h => h) (Or.inl ⟨by rfl, ?_⟩) hHeld ?_ ?_
        rotate_left
        · rintro w' ⟨s0, s1, s2, s3, s4, s5, s6⟩
          go_simp
          with_reducible rfl
        rotate_left
        · go_simp
          rfl
        refine take_ (i := 17) (N := some 35) (v := ?_) (a' := ?_) #[true, true, true, true, true, true, true, true, true, true, true, true, true, true, true, false, true, true, false, false, false, false, false, false, false, false, false] rfl rfl (by kernel_rfl) (fun _ _ _ h => h) (Or.inl ⟨by rfl, ?_⟩) hHeld ?_ ?_
        rotate_left
        · rintro w' ⟨s0, s1, s2, s3, s4, s5, s6⟩
          go_simp
          with_reducible rfl
        rotate_left
        · go_simp
          rfl
        refine pure_ (i := 18) (N := some 36) (v := ?_) (a' := ?_) #[true, true, true, true, true, true, true, true, true, true, true, true, true, true, true, false, true, true, true, false, false, false, false, false, false, false, false] rfl rfl (by kernel_rfl) (fun _ _ _ h => h) (Or.inl ⟨by rfl, ?_⟩) ?_ ?_
        rotate_left
        · intro w'
          go_simp
          with_reducible rfl
        rotate_left
        · go_simp
          rfl
        refine pure_ (i := 19) (N := some 37) (v := ?_) (a' := ?_) #[true, true, true, true, true, true, true, true, true, true, true, true, true, true, true, false, true, true, true, true, false, false, false, false, false, false, false] rfl rfl (by kernel_rfl) (fun _ _ _ h => h) (Or.inl ⟨by rfl, ?_⟩) ?_ ?_
        rotate_left
        · intro w'
          go_simp
          with_reducible rfl
        rotate_left
        · go_simp
          rfl
        refine take_ (i := 20) (N := some 38) (v := ?_) (a' := ?_) #[true, true, true, true, true, true, true, true, true, true, true, true, true, true, true, false, true, true, true, true, true, false, false, false, false, false, false] rfl rfl (by kernel_rfl) (fun _ _ _ h => h) (Or.inl ⟨by rfl, ?_⟩) hHeld ?_ ?_
        rotate_left
        · rintro w' ⟨s0, s1, s2, s3, s4, s5, s6⟩
          go_simp
          with_reducible rfl
        rotate_left
        · go_simp
          rfl
        refine one_ (i := 15) (N := some 33) #[true, true, true, true, true, true, true, true, true, true, true, true, true, true, true, true, true, true, true, true, true, false, false, false, false, false, false] rfl rfl (by kernel_rfl) (by decide) (fun K hK => ?_)
        refine goesV_ Try.func36 (by kernel_rfl) rfl #[.agg #[.string x.f0, .slice Ae x.f1.length ce]] (by rfl) rfl rfl (by rfl) (by simp only [List.map_toArray, List.map_cons, List.map_nil]; rfl) ?_
        refine (key36 x.f0 Ae x.f1.length ce W0).mono ?_
        rintro e W1 ⟨rfl, hb⟩
        refine ⟨_, rfl, ?_⟩
        replace HPd : Hid (W1.heap[p]? = some (.cells #[.string ⟨#[]⟩, .slice none 0 0, .string ⟨#[]⟩, .slice none 0 0, .bool false, .bool false] 71 (0, 0))) := blk_below HPd.out hb.out
        replace HBd : Hid (Below wr.heap.size wr W1) := HBd.out.trans (hb.out.mono HBd.out.size)
        refine hK.out _ _ ⟨pw_cell_below hb.out hHeld.1, pw_cell_below hb.out hHeld.2.1, pw_cell_below hb.out hHeld.2.2.1, pw_cell_below hb.out hHeld.2.2.2.1, pw_cell_below hb.out hHeld.2.2.2.2.1, pw_cell_below hb.out hHeld.2.2.2.2.2.1, pw_cell_below hb.out hHeld.2.2.2.2.2.2⟩ (fun hHeld => ?_)
        clear hK K hb
        refine norm_ (a' := ?_) ?_ ?_
        rotate_left
        · show Act.put _ (some 33) _ = _
          go_simp
          rfl
        refine one_ (i := 21) (N := some 39) #[true, true, true, true, true, true, true, true, true, true, true, true, true, true, true, true, true, true, true, true, true, true, false, false, false, false, false] rfl rfl (by kernel_rfl) (by decide) (fun K hK => ?_)
        refine goesV_ Try.func36 (by kernel_rfl) rfl #[.agg #[.string y.f0, .slice Af y.f1.length cf]] (by rfl) rfl rfl (by rfl) (by simp only [List.map_toArray, List.map_cons, List.map_nil]; rfl) ?_
        refine (key36 y.f0 Af y.f1.length cf W1).mono ?_
        rintro e W2 ⟨rfl, hb⟩
        refine ⟨_, rfl, ?_⟩
        replace HPd : Hid (W2.heap[p]? = some (.cells #[.string ⟨#[]⟩, .slice none 0 0, .string ⟨#[]⟩, .slice none 0 0, .bool false, .bool false] 71 (0, 0))) := blk_below HPd.out hb.out
        replace HBd : Hid (Below wr.heap.size wr W2) := HBd.out.trans (hb.out.mono HBd.out.size)
        refine hK.out _ _ ⟨pw_cell_below hb.out hHeld.1, pw_cell_below hb.out hHeld.2.1, pw_cell_below hb.out hHeld.2.2.1, pw_cell_below hb.out hHeld.2.2.2.1, pw_cell_below hb.out hHeld.2.2.2.2.1, pw_cell_below hb.out hHeld.2.2.2.2.2.1, pw_cell_below hb.out hHeld.2.2.2.2.2.2⟩ (fun hHeld => ?_)
        clear hK K hb
        refine norm_ (a' := ?_) ?_ ?_
        rotate_left
        · show Act.put _ (some 39) _ = _
          go_simp
          rfl
        refine pure_ (i := 22) (N := some 40) (v := ?_) (a' := ?_) #[true, true, true, true, true, true, true, true, true, true, true, true, true, true, true, true, true, true, true, true, true, true, true, false, false, false, false] rfl rfl (by kernel_rfl) (fun _ _ _ h => h) (Or.inl ⟨by rfl, ?_⟩) ?_ ?_
        rotate_left
        · intro w'
          go_simp
          with_reducible rfl
        rotate_left
        · go_simp
          rfl
        refine pure_ (i := 23) (N := some 41) (v := ?_) (a' := ?_) #[true, true, true, true, true, true, true, true, true, true, true, true, true, true, true, true, true, true, true, true, true, true, true, true, false, false, false] rfl rfl (by kernel_rfl) (fun _ _ _ h => h) (Or.inl ⟨by rfl, ?_⟩) ?_ ?_
        rotate_left
        · intro w'
          go_simp
          with_reducible rfl
        rotate_left
        · go_simp
          rfl
        refine pure_ (i := 24) (N := some 42) (v := ?_) (a' := ?_) #[true, true, true, true, true, true, true, true, true, true, true, true, true, true, true, true, true, true, true, true, true, true, true, true, true, false, false] rfl rfl (by kernel_rfl) (fun _ _ _ h => h) (Or.inl ⟨by rfl, ?_⟩) ?_ ?_
        rotate_left
        · intro w'
          go_simp
          with_reducible rfl
        rotate_left
        · go_simp
          rfl
        refine pure_ (i := 25) (N := some 43) (v := ?_) (a' := ?_) #[true, true, true, true, true, true, true, true, true, true, true, true, true, true, true, true, true, true, true, true, true, true, true, true, true, true, false] rfl rfl (by kernel_rfl) (fun _ _ _ h => h) (Or.inl ⟨by rfl, ?_⟩) ?_ ?_
        rotate_left
        · intro w'
          go_simp
          with_reducible rfl
        rotate_left
        · go_simp
          rfl
        refine last_ (i := 26) (N := none) #[true, true, true, true, true, true, true, true, true, true, true, true, true, true, true, true, true, true, true, true, true, true, true, true, true, true, true] rfl rfl (by kernel_rfl) (by decide) (fun K hK => ?_)
        have x4 : W2.cell? ⟨p, 4, none⟩ = some (.bool false) := blk_at HPd.out 4 rfl
        have z4 : W2.frozen? ⟨p, 4, none⟩ = false := blk_frozen HPd.out 4
        refine skip_ (w1 := W2.setCell ⟨p, 4, none⟩ (.bool (kle x.f0 y.f0))) (by rfl) rfl (by go_simp; try rfl) ?_
        clear x4 z4
        refine hK.out _ _ ?_
        have HP : Hid ((W2.setCell ⟨p, 4, none⟩ (.bool (kle x.f0 y.f0))).heap[p]? = some (.cells #[.string ⟨#[]⟩, .slice none 0 0, .string ⟨#[]⟩, .slice none 0 0, .bool (kle x.f0 y.f0), .bool false] 71 (0, 0))) := blk_put HPd.out 4 _ rfl
        have HB : Hid (Below wr.heap.size wr (W2.setCell ⟨p, 4, none⟩ (.bool (kle x.f0 y.f0)))) := HBd.out.setCell (by rw [HPE.out]; exact Nat.le_refl _) _
        clear hK K HPd HBd hHeld
        generalize W2.setCell ⟨p, 4, none⟩ (.bool (kle x.f0 y.f0)) = wc at *
        refine done_ (by kernel_rfl) ?_
        go_upto_region 4 with (fail)
        have HKW : Hid (KpX n₀ X W wc) := HK.out.trans (KpX.of_below HB.out (Nat.le_trans HN0.out HK.out.size))
        have HW0 : Hid (Below w0.heap.size w0 wc) := HKW.out.below HBW.out HN1.out HX.out
        have c1 : wc.cell? ⟨b1, 0, none⟩ = some (.slice (some ade) n ca) := (HKW.out.boxed H1.out HL.out.1 HL.out.2.1).cell
        have c2 : wc.cell? ⟨b2, 0, none⟩ = some (.slice (some adf) m cb) := (HKW.out.boxed H2.out HL.out.2.2.1 HL.out.2.2.2.1).cell
        have c3 : wc.cell? ⟨b3, 0, none⟩ = some (.func (.func 36) #[] #[]) := (HKW.out.boxed H3.out HL.out.2.2.2.2.1 HL.out.2.2.2.2.2).cell
        have e0 := pw_cell_below HW0.out ge0
        have e1 := pw_cell_below HW0.out ge1
        have f0 := pw_cell_below HW0.out gf0
        have f1 := pw_cell_below HW0.out gf1
        clear HKW HW0
        refine start_ (n := 27) (S := (fun w' => w'.cell? ⟨b1, 0, none⟩ = some (.slice (some ade) n ca) ∧ w'.cell? ⟨b2, 0, none⟩ = some (.slice (some adf) m cb) ∧ w'.cell? ⟨b3, 0, none⟩ = some (.func (.func 36) #[] #[]) ∧ w'.cell? (ade.add (i * 2)) = some (.string x.f0) ∧ w'.cell? ⟨(ade.add (i * 2)).block, (ade.add (i * 2)).off + 1, none⟩ = some (.slice Ae x.f1.length ce) ∧ w'.cell? (adf.add (j * 2)) = some (.string y.f0) ∧ w'.cell? ⟨(adf.add (j * 2)).block, (adf.add (j * 2)).off + 1, none⟩ = some (.slice Af y.f1.length cf))) (ds := [26]) #[false, false, false, false, false, false, false, false, false, false, false, false, false, false, false, false, false, false, false, false, false, false, false, false, false, false, false] (by kernel_rfl) rfl rfl ⟨c1, c2, c3, e0, e1, f0, f1⟩ (fun hHeld => ?_)
        have HBd : Hid (Below wr.heap.size wr wc.drew) := HB.out.drew
        have HPd : Hid (wc.drew.heap[p]? = some (.cells #[.string ⟨#[]⟩, .slice none 0 0, .string ⟨#[]⟩, .slice none 0 0, .bool (kle x.f0 y.f0), .bool false] 71 (0, 0))) := HP.out
        clear HB HP
        generalize wc.drew = W0 at hHeld HBd HPd ⊢
        clear c1 c2 c3 e0 e1 f0 f1
        refine pure_ (i := 0) (N := some 44) (v := ?_) (a' := ?_) #[true, false, false, false, false, false, false, false, false, false, false, false, false, false, false, false, false, false, false, false, false, false, false, false, false, false, false] rfl rfl (by kernel_rfl) (fun _ _ _ h => h) (Or.inl ⟨by rfl, ?_⟩) ?_ ?_
        rotate_left
        · intro w'
          go_simp
          with_reducible rfl
        rotate_left
        · go_simp
          rfl
        refine take_ (i := 1) (N := some 45) (v := ?_) (a' := ?_) #[true, true, false, false, false, false, false, false, false, false, false, false, false, false, false, false, false, false, false, false, false, false, false, false, false, false, false] rfl rfl (by kernel_rfl) (fun _ _ _ h => h) (Or.inl ⟨by rfl, ?_⟩) hHeld ?_ ?_
        rotate_left
        · rintro w' ⟨s0, s1, s2, s3, s4, s5, s6⟩
          go_simp
          with_reducible rfl
        rotate_left
        · go_simp
          rfl
        refine pure_ (i := 2) (N := some 46) (v := ?_) (a' := ?_) #[true, true, true, false, false, false, false, false, false, false, false, false, false, false, false, false, false, false, false, false, false, false, false, false, false, false, false] rfl rfl (by kernel_rfl) (fun _ _ _ h => h) (Or.inl ⟨by rfl, ?_⟩) ?_ ?_
        rotate_left
        · intro w'
          go_simp
          with_reducible rfl
        rotate_left
        · go_simp
          rfl
        refine pure_ (i := 3) (N := some 47) (v := ?_) (a' := ?_) #[true, true, true, true, false, false, false, false, false, false, false, false, false, false, false, false, false, false, false, false, false, false, false, false, false, false, false] rfl rfl (by kernel_rfl) (fun _ _ _ h => h) (Or.inl ⟨by rfl, ?_⟩) ?_ ?_
        rotate_left
        · intro w'
          go_simp
          with_reducible rfl
        rotate_left
        · go_simp
          rfl
        refine pure_ (i := 4) (N := some 48) (v := ?_) (a' := ?_) #[true, true, true, true, true, false, false, false, false, false, false, false, false, false, false, false, false, false, false, false, false, false, false, false, false, false, false] rfl rfl (by kernel_rfl) (fun _ _ _ h => h) (Or.inl ⟨by rfl, ?_⟩) ?_ ?_
        rotate_left
        · intro w'
          go_simp
          with_reducible rfl
        rotate_left
        · go_simp
          rfl
        refine pure_ (i := 5) (N := some 49) (v := ?_) (a' := ?_) #[true, true, true, true, true, true, false, false, false, false, false, false, false, false, false, false, false, false, false, false, false, false, false, false, false, false, false] rfl rfl (by kernel_rfl) (fun _ _ _ h => h) (Or.inl ⟨by rfl, ?_⟩) ?_ ?_
        rotate_left
        · intro w'
          go_simp
          with_reducible rfl
        rotate_left
        · go_simp
          rfl
        refine take_ (i := 6) (N := some 50) (v := ?_) (a' := ?_) #[true, true, true, true, true, true, true, false, false, false, false, false, false, false, false, false, false, false, false, false, false, false, false, false, false, false, false] rfl rfl (by kernel_rfl) (fun _ _ _ h => h) (Or.inl ⟨by rfl, ?_⟩) hHeld ?_ ?_
        rotate_left
        · rintro w' ⟨s0, s1, s2, s3, s4, s5, s6⟩
          go_simp
          with_reducible rfl
        rotate_left
        · go_simp
          rfl
        refine pure_ (i := 7) (N := some 51) (v := ?_) (a' := ?_) #[true, true, true, true, true, true, true, true, false, false, false, false, false, false, false, false, false, false, false, false, false, false, false, false, false, false, false] rfl rfl (by kernel_rfl) (fun _ _ _ h => h) (Or.inl ⟨by rfl, ?_⟩) ?_ ?_
        rotate_left
        · intro w'
          go_simp
          with_reducible rfl
        rotate_left
        · go_simp
          rfl
        refine pure_ (i := 8) (N := some 52) (v := ?_) (a' := ?_) #[true, true, true, true, true, true, true, true, true, false, false, false, false, false, false, false, false, false, false, false, false, false, false, false, false, false, false] rfl rfl (by kernel_rfl) (fun _ _ _ h => h) (Or.inl ⟨by rfl, ?_⟩) ?_ ?_
        rotate_left
        · intro w'
          go_simp
          with_reducible rfl
        rotate_left
        · go_simp
          rfl
        refine pure_ (i := 9) (N := some 53) (v := ?_) (a' := ?_) #[true, true, true, true, true, true, true, true, true, true, false, false, false, false, false, false, false, false, false, false, false, false, false, false, false, false, false] rfl rfl (by kernel_rfl) (fun _ _ _ h => h) (Or.inl ⟨by rfl, ?_⟩) ?_ ?_
        rotate_left
        · intro w'
          go_simp
          with_reducible rfl
        rotate_left
        · go_simp
          rfl
        refine take_ (i := 10) (N := some 54) (v := ?_) (a' := ?_) #[true, true, true, true, true, true, true, true, true, true, true, false, false, false, false, false, false, false, false, false, false, false, false, false, false, false, false] rfl rfl (by kernel_rfl) (fun _ _ _ h => h) (Or.inl ⟨by rfl, ?_⟩) hHeld ?_ ?_
        rotate_left
        · rintro w' ⟨s0, s1, s2, s3, s4, s5, s6⟩
          go_simp
          with_reducible rfl
        rotate_left
        · go_simp
          rfl
        refine take_ (i := 11) (N := some 55) (v := ?_) (a' := ?_) #[true, true, true, true, true, true, true, true, true, true, true, true, false, false, false, false, false, false, false, false, false, false, false, false, false, false, false] rfl rfl (by kernel_rfl) (fun _ _ _ h => h) (Or.inl ⟨by rfl, ?_⟩) hHeld ?_ ?_
        rotate_left
        · rintro w' ⟨s0, s1, s2, s3, s4, s5, s6⟩
          go_simp
          with_reducible rfl
        rotate_left
        · go_simp
          rfl
        refine pure_ (i := 12) (N := some 56) (v := ?_) (a' := ?_) #[true, true, true, true, true, true, true, true, true, true, true, true, true, false, false, false, false, false, false, false, false, false, false, false, false, false, false] rfl rfl (by kernel_rfl) (fun _ _ _ h => h) (Or.inl ⟨by rfl, ?_⟩) ?_ ?_
        rotate_left
        · intro w'
          go_simp
          with_reducible rfl
        rotate_left
        · go_simp
          rfl
        refine pure_ (i := 13) (N := some 57) (v := ?_) (a' := ?_) #[true, true, true, true, true, true, true, true, true, true, true, true, true, true, false, false, false, false, false, false, false, false, false, false, false, false, false] rfl rfl (by kernel_rfl) (fun _ _ _ h => h) (Or.inl ⟨by rfl, ?_⟩) ?_ ?_
        rotate_left
        · intro w'
          go_simp
          with_reducible rfl
        rotate_left
        · go_simp
          rfl
        refine take_ (i := 14) (N := some 58) (v := ?_) (a' := ?_) #[true, true, true, true, true, true, true, true, true, true, true, true, true, true, true, false, false, false, false, false, false, false, false, false, false, false, false] rfl rfl (by kernel_rfl) (fun _ _ _ h => h) (Or.inl ⟨by rfl, ?_⟩) hHeld ?_ ?_
        rotate_left
        · rintro w' ⟨s0, s1, s2, s3, s4, s5, s6⟩
          go_simp
          with_reducible rfl
        rotate_left
        · go_simp
          rfl
        refine take_ (i := 16) (N := some 60) (v := ?_) (a' := ?_) #[true, true, true, true, true, true, true, true, true, true, true, true, true, true, true, false, true, false, false, false, false, false, false, false, false, false, false] rfl rfl (by kernel_rfl) (fun _ _ _ h => h) (Or.inl ⟨by rfl, ?_⟩) hHeld ?_ ?_
        rotate_left
        · rintro w' ⟨s0, s1, s2, s3, s4, s5, s6⟩
          go_simp
          with_reducible rfl
        rotate_left
        · go_simp
          rfl
        refine take_ (i := 17) (N := some 61) (v := ?_) (a' := ?_) #[true, true, true, true, true, true, true, true, true, true, true, true, true, true, true, false, true, true, false, false, false, false, false, false, false, false, false] rfl rfl (by kernel_rfl) (fun _ _ _ h => h) (Or.inl ⟨by rfl, ?_⟩) hHeld ?_ ?_
        rotate_left
        · rintro w' ⟨s0, s1, s2, s3, s4, s5, s6⟩
          go_simp
          with_reducible rfl
        rotate_left
        · go_simp
          rfl
        refine pure_ (i := 18) (N := some 62) (v := ?_) (a' := ?_) #[true, true, true, true, true, true, true, true, true, true, true, true, true, true, true, false, true, true, true, false, false, false, false, false, false, false, false] rfl rfl (by kernel_rfl) (fun _ _ _ h => h) (Or.inl ⟨by rfl, ?_⟩) ?_ ?_
        rotate_left
        · intro w'
          go_simp
          with_reducible rfl
        rotate_left
        · go_simp
          rfl
        refine pure_ (i := 19) (N := some 63) (v := ?_) (a' := ?_) #[true, true, true, true, true, true, true, true, true, true, true, true, true, true, true, false, true, true, true, true, false, false, false, false, false, false, false] rfl rfl (by kernel_rfl) (fun _ _ _ h => h) (Or.inl ⟨by rfl, ?_⟩) ?_ ?_
        rotate_left
        · intro w'
          go_simp
          with_reducible rfl
        rotate_left
        · go_simp
          rfl
        refine take_ (i := 20) (N := some 64) (v := ?_) (a' := ?_) #[true, true, true, true, true, true, true, true, true, true, true, true, true, true, true, false, true, true, true, true, true, false, false, false, false, false, false] rfl rfl (by kernel_rfl) (fun _ _ _ h => h) (Or.inl ⟨by rfl, ?_⟩) hHeld ?_ ?_
        rotate_left
        · rintro w' ⟨s0, s1, s2, s3, s4, s5, s6⟩
          go_simp
          with_reducible rfl
        rotate_left
        · go_simp
          rfl
        refine one_ (i := 15) (N := some 59) #[true, true, true, true, true, true, true, true, true, true, true, true, true, true, true, true, true, true, true, true, true, false, false, false, false, false, false] rfl rfl (by kernel_rfl) (by decide) (fun K hK => ?_)
        refine goesV_ Try.func36 (by kernel_rfl) rfl #[.agg #[.string y.f0, .slice Af y.f1.length cf]] (by rfl) rfl rfl (by rfl) (by simp only [List.map_toArray, List.map_cons, List.map_nil]; rfl) ?_
        refine (key36 y.f0 Af y.f1.length cf W0).mono ?_
        rintro e W1 ⟨rfl, hb⟩
        refine ⟨_, rfl, ?_⟩
        replace HPd : Hid (W1.heap[p]? = some (.cells #[.string ⟨#[]⟩, .slice none 0 0, .string ⟨#[]⟩, .slice none 0 0, .bool (kle x.f0 y.f0), .bool false] 71 (0, 0))) := blk_below HPd.out hb.out
        replace HBd : Hid (Below wr.heap.size wr W1) := HBd.out.trans (hb.out.mono HBd.out.size)
        refine hK.out _ _ ⟨pw_cell_below hb.out hHeld.1, pw_cell_below hb.out hHeld.2.1, pw_cell_below hb.out hHeld.2.2.1, pw_cell_below hb.out hHeld.2.2.2.1, pw_cell_below hb.out hHeld.2.2.2.2.1, pw_cell_below hb.out hHeld.2.2.2.2.2.1, pw_cell_below hb.out hHeld.2.2.2.2.2.2⟩ (fun hHeld => ?_)
        clear hK K hb
        refine norm_ (a' := ?_) ?_ ?_
        rotate_left
        · show Act.put _ (some 59) _ = _
          go_simp
          rfl
        refine one_ (i := 21) (N := some 65) #[true, true, true, true, true, true, true, true, true, true, true, true, true, true, true, true, true, true, true, true, true, true, false, false, false, false, false] rfl rfl (by kernel_rfl) (by decide) (fun K hK => ?_)
        refine goesV_ Try.func36 (by kernel_rfl) rfl #[.agg #[.string x.f0, .slice Ae x.f1.length ce]] (by rfl) rfl rfl (by rfl) (by simp only [List.map_toArray, List.map_cons, List.map_nil]; rfl) ?_
        refine (key36 x.f0 Ae x.f1.length ce W1).mono ?_
        rintro e W2 ⟨rfl, hb⟩
        refine ⟨_, rfl, ?_⟩
        replace HPd : Hid (W2.heap[p]? = some (.cells #[.string ⟨#[]⟩, .slice none 0 0, .string ⟨#[]⟩, .slice none 0 0, .bool (kle x.f0 y.f0), .bool false] 71 (0, 0))) := blk_below HPd.out hb.out
        replace HBd : Hid (Below wr.heap.size wr W2) := HBd.out.trans (hb.out.mono HBd.out.size)
        refine hK.out _ _ ⟨pw_cell_below hb.out hHeld.1, pw_cell_below hb.out hHeld.2.1, pw_cell_below hb.out hHeld.2.2.1, pw_cell_below hb.out hHeld.2.2.2.1, pw_cell_below hb.out hHeld.2.2.2.2.1, pw_cell_below hb.out hHeld.2.2.2.2.2.1, pw_cell_below hb.out hHeld.2.2.2.2.2.2⟩ (fun hHeld => ?_)
        clear hK K hb
        refine norm_ (a' := ?_) ?_ ?_
        rotate_left
        · show Act.put _ (some 65) _ = _
          go_simp
          rfl
        refine pure_ (i := 22) (N := some 66) (v := ?_) (a' := ?_) #[true, true, true, true, true, true, true, true, true, true, true, true, true, true, true, true, true, true, true, true, true, true, true, false, false, false, false] rfl rfl (by kernel_rfl) (fun _ _ _ h => h) (Or.inl ⟨by rfl, ?_⟩) ?_ ?_
        rotate_left
        · intro w'
          go_simp
          with_reducible rfl
        rotate_left
        · go_simp
          rfl
        refine pure_ (i := 23) (N := some 67) (v := ?_) (a' := ?_) #[true, true, true, true, true, true, true, true, true, true, true, true, true, true, true, true, true, true, true, true, true, true, true, true, false, false, false] rfl rfl (by kernel_rfl) (fun _ _ _ h => h) (Or.inl ⟨by rfl, ?_⟩) ?_ ?_
        rotate_left
        · intro w'
          go_simp
          with_reducible rfl
        rotate_left
        · go_simp
          rfl
        refine pure_ (i := 24) (N := some 68) (v := ?_) (a' := ?_) #[true, true, true, true, true, true, true, true, true, true, true, true, true, true, true, true, true, true, true, true, true, true, true, true, true, false, false] rfl rfl (by kernel_rfl) (fun _ _ _ h => h) (Or.inl ⟨by rfl, ?_⟩) ?_ ?_
        rotate_left
        · intro w'
          go_simp
          with_reducible rfl
        rotate_left
        · go_simp
          rfl
        refine pure_ (i := 25) (N := some 69) (v := ?_) (a' := ?_) #[true, true, true, true, true, true, true, true, true, true, true, true, true, true, true, true, true, true, true, true, true, true, true, true, true, true, false] rfl rfl (by kernel_rfl) (fun _ _ _ h => h) (Or.inl ⟨by rfl, ?_⟩) ?_ ?_
        rotate_left
        · intro w'
          go_simp
          with_reducible rfl
        rotate_left
        · go_simp
          rfl
        refine last_ (i := 26) (N := none) #[true, true, true, true, true, true, true, true, true, true, true, true, true, true, true, true, true, true, true, true, true, true, true, true, true, true, true] rfl rfl (by kernel_rfl) (by decide) (fun K hK => ?_)
        have x4 : W2.cell? ⟨p, 5, none⟩ = some (.bool false) := blk_at HPd.out 5 rfl
        have z4 : W2.frozen? ⟨p, 5, none⟩ = false := blk_frozen HPd.out 5
        refine skip_ (w1 := W2.setCell ⟨p, 5, none⟩ (.bool (kle y.f0 x.f0))) (by rfl) rfl (by go_simp; try rfl) ?_
        clear x4 z4
        refine hK.out _ _ ?_
        have HP : Hid ((W2.setCell ⟨p, 5, none⟩ (.bool (kle y.f0 x.f0))).heap[p]? = some (.cells #[.string ⟨#[]⟩, .slice none 0 0, .string ⟨#[]⟩, .slice none 0 0, .bool (kle x.f0 y.f0), .bool (kle y.f0 x.f0)] 71 (0, 0))) := blk_put HPd.out 5 _ rfl
        have HB : Hid (Below wr.heap.size wr (W2.setCell ⟨p, 5, none⟩ (.bool (kle y.f0 x.f0)))) := HBd.out.setCell (by rw [HPE.out]; exact Nat.le_refl _) _
        clear hK K HPd HBd hHeld
        generalize W2.setCell ⟨p, 5, none⟩ (.bool (kle y.f0 x.f0)) = wc at *
        refine done_ (by kernel_rfl) ?_
        cases hxy : kle x.f0 y.f0 with
        | false =>
          have hyx := kle_total hxy
          rw [hxy, hyx] at HP
          have HKW : Hid (KpX n₀ X W wc) := HK.out.trans (KpX.of_below HB.out (Nat.le_trans HN0.out HK.out.size))
          have HW0 : Hid (Below w0.heap.size w0 wc) := HKW.out.below HBW.out HN1.out HX.out
          have c1 : wc.cell? ⟨b1, 0, none⟩ = some (.slice (some ade) n ca) := (HKW.out.boxed H1.out HL.out.1 HL.out.2.1).cell
          have c2 : wc.cell? ⟨b2, 0, none⟩ = some (.slice (some adf) m cb) := (HKW.out.boxed H2.out HL.out.2.2.1 HL.out.2.2.2.1).cell
          have c3 : wc.cell? ⟨b3, 0, none⟩ = some (.func (.func 36) #[] #[]) := (HKW.out.boxed H3.out HL.out.2.2.2.2.1 HL.out.2.2.2.2.2).cell
          have e0 := pw_cell_below HW0.out ge0
          have e1 := pw_cell_below HW0.out ge1
          have f0 := pw_cell_below HW0.out gf0
          have f1 := pw_cell_below HW0.out gf1
          clear HKW HW0
          have p0 : wc.cell? ⟨p, 0, none⟩ = some (.string ⟨#[]⟩) := blk_at HP.out 0 rfl
          have z0 : wc.frozen? ⟨p, 0, none⟩ = false := blk_frozen HP.out 0
          have p1 : wc.cell? ⟨p, 1, none⟩ = some (.slice none 0 0) := blk_at HP.out 1 rfl
          have z1 : wc.frozen? ⟨p, 1, none⟩ = false := blk_frozen HP.out 1
          have p2 : wc.cell? ⟨p, 2, none⟩ = some (.string ⟨#[]⟩) := blk_at HP.out 2 rfl
          have z2 : wc.frozen? ⟨p, 2, none⟩ = false := blk_frozen HP.out 2
          have p3 : wc.cell? ⟨p, 3, none⟩ = some (.slice none 0 0) := blk_at HP.out 3 rfl
          have z3 : wc.frozen? ⟨p, 3, none⟩ = false := blk_frozen HP.out 3
          have p4 : wc.cell? ⟨p, 4, none⟩ = some (.bool false) := blk_at HP.out 4 rfl
          have z4 : wc.frozen? ⟨p, 4, none⟩ = false := blk_frozen HP.out 4
          have p5 : wc.cell? ⟨p, 5, none⟩ = some (.bool true) := blk_at HP.out 5 rfl
          have z5 : wc.frozen? ⟨p, 5, none⟩ = false := blk_frozen HP.out 5
          go_upto_region 11 with (fail)
          clear c1 c2 c3 e0 e1 f0 f1 p0 z0 p1 z1 p2 z2 p3 z3 p4 z4 p5 z5
          have HP9 : Hid (((wc.setCell ⟨p, 2, none⟩ (.string y.f0)).setCell ⟨p, 3, none⟩ (.slice Af y.f1.length cf)).heap[p]? = some (.cells #[.string ⟨#[]⟩, .slice none 0 0, .string y.f0, .slice Af y.f1.length cf, .bool false, .bool true] 71 (0, 0))) := blk_put (blk_put (HP.out) 2 _ rfl) 3 _ rfl
          have HB9 : Hid (Below wr.heap.size wr ((wc.setCell ⟨p, 2, none⟩ (.string y.f0)).setCell ⟨p, 3, none⟩ (.slice Af y.f1.length cf))) := ((HB.out).setCell (by rw [HPE.out]; exact Nat.le_refl _) _).setCell (by rw [HPE.out]; exact Nat.le_refl _) _
          clear HP HB
          generalize ((wc.setCell ⟨p, 2, none⟩ (.string y.f0)).setCell ⟨p, 3, none⟩ (.slice Af y.f1.length cf)) = W9 at *
          have p0 : W9.cell? ⟨p, 0, none⟩ = some (.string ⟨#[]⟩) := blk_at HP9.out 0 rfl
          have p1 : W9.cell? ⟨p, 1, none⟩ = some (.slice none 0 0) := blk_at HP9.out 1 rfl
          have p2 : W9.cell? ⟨p, 2, none⟩ = some (.string y.f0) := blk_at HP9.out 2 rfl
          have p3 : W9.cell? ⟨p, 3, none⟩ = some (.slice Af y.f1.length cf) := blk_at HP9.out 3 rfl
          have p4 : W9.cell? ⟨p, 4, none⟩ = some (.bool false) := blk_at HP9.out 4 rfl
          have p5 : W9.cell? ⟨p, 5, none⟩ = some (.bool true) := blk_at HP9.out 5 rfl
          have HR9 : Hid (pre.map PVC.p ++ (⟨z63, y, false, true⟩ : MPC) :: mrgC (a.drop (i)) (b.drop (j + 1)) = mrgC a b) := Lib.hid (by
            rw [← HR.out, HDA.out, HDB.out, mrgC_right x y _ _ hxy]
            )
          obtain ⟨fn, tmps, assign, body, hy', hR⟩ := HY.out pre (⟨⟨z63, y, false, true⟩, none, 0, Af, cf, (Nat.le_refl 0), (C_none87 w0), hlf, hCf⟩ : PVC w0) W9 (HJ.out _ _ _ none HJs.out (grown_of_below HB9.out none) (by simp)) ⟨_, HR9.out⟩
          have hy : (Instr.yield l #[.agg #[.string ⟨#[]⟩, .slice none 0 0, .string y.f0, .slice Af y.f1.length cf, .bool false, .bool true]]).run Try.prog W9 = .ok (.round l fn tmps assign body) W9 := hy'
          have HRD := Lib.hid hR
          clear hy' hR
          refine (wpIn_wide (n := n0 + 1)).1 ?_
          gi_wp2
          refine HRD.out.mono ?_
          rintro e W3 (⟨rfl, hJ3, hk3⟩ | ⟨rfl, hJx3⟩)
          · have HJ3 := Lib.hid hJ3
            have HK3 : Hid (KpX n₀ X W W3) := HK.out.trans ((KpX.of_below HB9.out (Nat.le_trans HN0.out HK.out.size)).trans hk3)
            clear hJ3 hk3 p0 p1 p2 p3 p4 p5 hy
            gi_wp2
            go_wp2_with (fail)
            go_roundw
            case rel => exact ⟨i, j + 1, pre ++ [(⟨⟨z63, y, false, true⟩, none, 0, Af, cf, (Nat.le_refl 0), (C_none87 w0), hlf, hCf⟩ : PVC w0)], by omega, by omega, by go_num, by go_num, by rw [List.map_append, List.append_assoc]; exact HR9, HJ3, HK3⟩
            case measure => simp [intOf]; omega
          · have HJ3 := Lib.hid hJx3
            clear hJx3 p0 p1 p2 p3 p4 p5 hy
            gi_wp2
            go_wp2_with (fail)
            refine bodyPost_ret (results_none rfl _ _ _) rfl ?_
            exact ⟨⟨_, rfl⟩, .inr ⟨pre ++ [(⟨⟨z63, y, false, true⟩, none, 0, Af, cf, (Nat.le_refl 0), (C_none87 w0), hlf, hCf⟩ : PVC w0)], ⟨_, by rw [List.map_append, List.append_assoc]; exact HR9.out⟩, HJ3.out⟩⟩
        | true =>
          cases hyx : kle y.f0 x.f0 with
          | false =>
            rw [hxy, hyx] at HP
            have HKW : Hid (KpX n₀ X W wc) := HK.out.trans (KpX.of_below HB.out (Nat.le_trans HN0.out HK.out.size))
            have HW0 : Hid (Below w0.heap.size w0 wc) := HKW.out.below HBW.out HN1.out HX.out
            have c1 : wc.cell? ⟨b1, 0, none⟩ = some (.slice (some ade) n ca) := (HKW.out.boxed H1.out HL.out.1 HL.out.2.1).cell
            have c2 : wc.cell? ⟨b2, 0, none⟩ = some (.slice (some adf) m cb) := (HKW.out.boxed H2.out HL.out.2.2.1 HL.out.2.2.2.1).cell
            have c3 : wc.cell? ⟨b3, 0, none⟩ = some (.func (.func 36) #[] #[]) := (HKW.out.boxed H3.out HL.out.2.2.2.2.1 HL.out.2.2.2.2.2).cell
            have e0 := pw_cell_below HW0.out ge0
            have e1 := pw_cell_below HW0.out ge1
            have f0 := pw_cell_below HW0.out gf0
            have f1 := pw_cell_below HW0.out gf1
            clear HKW HW0
            have p0 : wc.cell? ⟨p, 0, none⟩ = some (.string ⟨#[]⟩) := blk_at HP.out 0 rfl
            have z0 : wc.frozen? ⟨p, 0, none⟩ = false := blk_frozen HP.out 0
            have p1 : wc.cell? ⟨p, 1, none⟩ = some (.slice none 0 0) := blk_at HP.out 1 rfl
            have z1 : wc.frozen? ⟨p, 1, none⟩ = false := blk_frozen HP.out 1
            have p2 : wc.cell? ⟨p, 2, none⟩ = some (.string ⟨#[]⟩) := blk_at HP.out 2 rfl
            have z2 : wc.frozen? ⟨p, 2, none⟩ = false := blk_frozen HP.out 2
            have p3 : wc.cell? ⟨p, 3, none⟩ = some (.slice none 0 0) := blk_at HP.out 3 rfl
            have z3 : wc.frozen? ⟨p, 3, none⟩ = false := blk_frozen HP.out 3
            have p4 : wc.cell? ⟨p, 4, none⟩ = some (.bool true) := blk_at HP.out 4 rfl
            have z4 : wc.frozen? ⟨p, 4, none⟩ = false := blk_frozen HP.out 4
            have p5 : wc.cell? ⟨p, 5, none⟩ = some (.bool false) := blk_at HP.out 5 rfl
            have z5 : wc.frozen? ⟨p, 5, none⟩ = false := blk_frozen HP.out 5
            go_upto_region 11 with (fail)
            clear c1 c2 c3 e0 e1 f0 f1 p0 z0 p1 z1 p2 z2 p3 z3 p4 z4 p5 z5
            have HP9 : Hid (((wc.setCell ⟨p, 0, none⟩ (.string x.f0)).setCell ⟨p, 1, none⟩ (.slice Ae x.f1.length ce)).heap[p]? = some (.cells #[.string x.f0, .slice Ae x.f1.length ce, .string ⟨#[]⟩, .slice none 0 0, .bool true, .bool false] 71 (0, 0))) := blk_put (blk_put (HP.out) 0 _ rfl) 1 _ rfl
            have HB9 : Hid (Below wr.heap.size wr ((wc.setCell ⟨p, 0, none⟩ (.string x.f0)).setCell ⟨p, 1, none⟩ (.slice Ae x.f1.length ce))) := ((HB.out).setCell (by rw [HPE.out]; exact Nat.le_refl _) _).setCell (by rw [HPE.out]; exact Nat.le_refl _) _
            clear HP HB
            generalize ((wc.setCell ⟨p, 0, none⟩ (.string x.f0)).setCell ⟨p, 1, none⟩ (.slice Ae x.f1.length ce)) = W9 at *
            have p0 : W9.cell? ⟨p, 0, none⟩ = some (.string x.f0) := blk_at HP9.out 0 rfl
            have p1 : W9.cell? ⟨p, 1, none⟩ = some (.slice Ae x.f1.length ce) := blk_at HP9.out 1 rfl
            have p2 : W9.cell? ⟨p, 2, none⟩ = some (.string ⟨#[]⟩) := blk_at HP9.out 2 rfl
            have p3 : W9.cell? ⟨p, 3, none⟩ = some (.slice none 0 0) := blk_at HP9.out 3 rfl
            have p4 : W9.cell? ⟨p, 4, none⟩ = some (.bool true) := blk_at HP9.out 4 rfl
            have p5 : W9.cell? ⟨p, 5, none⟩ = some (.bool false) := blk_at HP9.out 5 rfl
            have HR9 : Hid (pre.map PVC.p ++ (⟨x, z63, true, false⟩ : MPC) :: mrgC (a.drop (i + 1)) (b.drop (j)) = mrgC a b) := Lib.hid (by
              rw [← HR.out, HDA.out, HDB.out, mrgC_left x y _ _ hxy hyx]
              )
            obtain ⟨fn, tmps, assign, body, hy', hR⟩ := HY.out pre (⟨⟨x, z63, true, false⟩, Ae, ce, none, 0, hle, hCe, (Nat.le_refl 0), (C_none87 w0)⟩ : PVC w0) W9 (HJ.out _ _ _ none HJs.out (grown_of_below HB9.out none) (by simp)) ⟨_, HR9.out⟩
            have hy : (Instr.yield l #[.agg #[.string x.f0, .slice Ae x.f1.length ce, .string ⟨#[]⟩, .slice none 0 0, .bool true, .bool false]]).run Try.prog W9 = .ok (.round l fn tmps assign body) W9 := hy'
            have HRD := Lib.hid hR
            clear hy' hR
            refine (wpIn_wide (n := n0 + 1)).1 ?_
            gi_wp2
            refine HRD.out.mono ?_
            rintro e W3 (⟨rfl, hJ3, hk3⟩ | ⟨rfl, hJx3⟩)
            · have HJ3 := Lib.hid hJ3
              have HK3 : Hid (KpX n₀ X W W3) := HK.out.trans ((KpX.of_below HB9.out (Nat.le_trans HN0.out HK.out.size)).trans hk3)
              clear hJ3 hk3 p0 p1 p2 p3 p4 p5 hy
              gi_wp2
              go_wp2_with (fail)
              go_roundw
              case rel => exact ⟨i + 1, j, pre ++ [(⟨⟨x, z63, true, false⟩, Ae, ce, none, 0, hle, hCe, (Nat.le_refl 0), (C_none87 w0)⟩ : PVC w0)], by omega, by omega, by go_num, by go_num, by rw [List.map_append, List.append_assoc]; exact HR9, HJ3, HK3⟩
              case measure => simp [intOf]; omega
            · have HJ3 := Lib.hid hJx3
              clear hJx3 p0 p1 p2 p3 p4 p5 hy
              gi_wp2
              go_wp2_with (fail)
              refine bodyPost_ret (results_none rfl _ _ _) rfl ?_
              exact ⟨⟨_, rfl⟩, .inr ⟨pre ++ [(⟨⟨x, z63, true, false⟩, Ae, ce, none, 0, hle, hCe, (Nat.le_refl 0), (C_none87 w0)⟩ : PVC w0)], ⟨_, by rw [List.map_append, List.append_assoc]; exact HR9.out⟩, HJ3.out⟩⟩
          | true =>
            rw [hxy, hyx] at HP
            have HKW : Hid (KpX n₀ X W wc) := HK.out.trans (KpX.of_below HB.out (Nat.le_trans HN0.out HK.out.size))
            have HW0 : Hid (Below w0.heap.size w0 wc) := HKW.out.below HBW.out HN1.out HX.out
            have c1 : wc.cell? ⟨b1, 0, none⟩ = some (.slice (some ade) n ca) := (HKW.out.boxed H1.out HL.out.1 HL.out.2.1).cell
            have c2 : wc.cell? ⟨b2, 0, none⟩ = some (.slice (some adf) m cb) := (HKW.out.boxed H2.out HL.out.2.2.1 HL.out.2.2.2.1).cell
            have c3 : wc.cell? ⟨b3, 0, none⟩ = some (.func (.func 36) #[] #[]) := (HKW.out.boxed H3.out HL.out.2.2.2.2.1 HL.out.2.2.2.2.2).cell
            have e0 := pw_cell_below HW0.out ge0
            have e1 := pw_cell_below HW0.out ge1
            have f0 := pw_cell_below HW0.out gf0
            have f1 := pw_cell_below HW0.out gf1
            clear HKW HW0
            have p0 : wc.cell? ⟨p, 0, none⟩ = some (.string ⟨#[]⟩) := blk_at HP.out 0 rfl
            have z0 : wc.frozen? ⟨p, 0, none⟩ = false := blk_frozen HP.out 0
            have p1 : wc.cell? ⟨p, 1, none⟩ = some (.slice none 0 0) := blk_at HP.out 1 rfl
            have z1 : wc.frozen? ⟨p, 1, none⟩ = false := blk_frozen HP.out 1
            have p2 : wc.cell? ⟨p, 2, none⟩ = some (.string ⟨#[]⟩) := blk_at HP.out 2 rfl
            have z2 : wc.frozen? ⟨p, 2, none⟩ = false := blk_frozen HP.out 2
            have p3 : wc.cell? ⟨p, 3, none⟩ = some (.slice none 0 0) := blk_at HP.out 3 rfl
            have z3 : wc.frozen? ⟨p, 3, none⟩ = false := blk_frozen HP.out 3
            have p4 : wc.cell? ⟨p, 4, none⟩ = some (.bool true) := blk_at HP.out 4 rfl
            have z4 : wc.frozen? ⟨p, 4, none⟩ = false := blk_frozen HP.out 4
            have p5 : wc.cell? ⟨p, 5, none⟩ = some (.bool true) := blk_at HP.out 5 rfl
            have z5 : wc.frozen? ⟨p, 5, none⟩ = false := blk_frozen HP.out 5
            go_upto_region 8 with (fail)
            clear c1 c2 c3 e0 e1 f0 f1 p0 z0 p1 z1 p2 z2 p3 z3 p4 z4 p5 z5
            have HP8 : Hid (((wc.setCell ⟨p, 0, none⟩ (.string x.f0)).setCell ⟨p, 1, none⟩ (.slice Ae x.f1.length ce)).heap[p]? = some (.cells #[.string x.f0, .slice Ae x.f1.length ce, .string ⟨#[]⟩, .slice none 0 0, .bool true, .bool true] 71 (0, 0))) := blk_put (blk_put (HP.out) 0 _ rfl) 1 _ rfl
            have HB8 : Hid (Below wr.heap.size wr ((wc.setCell ⟨p, 0, none⟩ (.string x.f0)).setCell ⟨p, 1, none⟩ (.slice Ae x.f1.length ce))) := ((HB.out).setCell (by rw [HPE.out]; exact Nat.le_refl _) _).setCell (by rw [HPE.out]; exact Nat.le_refl _) _
            clear HP HB
            generalize ((wc.setCell ⟨p, 0, none⟩ (.string x.f0)).setCell ⟨p, 1, none⟩ (.slice Ae x.f1.length ce)) = wc at *
            have HP := HP8
            have HB := HB8
            clear HP8 HB8
            have HKW : Hid (KpX n₀ X W wc) := HK.out.trans (KpX.of_below HB.out (Nat.le_trans HN0.out HK.out.size))
            have HW0 : Hid (Below w0.heap.size w0 wc) := HKW.out.below HBW.out HN1.out HX.out
            have c1 : wc.cell? ⟨b1, 0, none⟩ = some (.slice (some ade) n ca) := (HKW.out.boxed H1.out HL.out.1 HL.out.2.1).cell
            have c2 : wc.cell? ⟨b2, 0, none⟩ = some (.slice (some adf) m cb) := (HKW.out.boxed H2.out HL.out.2.2.1 HL.out.2.2.2.1).cell
            have c3 : wc.cell? ⟨b3, 0, none⟩ = some (.func (.func 36) #[] #[]) := (HKW.out.boxed H3.out HL.out.2.2.2.2.1 HL.out.2.2.2.2.2).cell
            have e0 := pw_cell_below HW0.out ge0
            have e1 := pw_cell_below HW0.out ge1
            have f0 := pw_cell_below HW0.out gf0
            have f1 := pw_cell_below HW0.out gf1
            clear HKW HW0
            have p0 : wc.cell? ⟨p, 0, none⟩ = some (.string x.f0) := blk_at HP.out 0 rfl
            have z0 : wc.frozen? ⟨p, 0, none⟩ = false := blk_frozen HP.out 0
            have p1 : wc.cell? ⟨p, 1, none⟩ = some (.slice Ae x.f1.length ce) := blk_at HP.out 1 rfl
            have z1 : wc.frozen? ⟨p, 1, none⟩ = false := blk_frozen HP.out 1
            have p2 : wc.cell? ⟨p, 2, none⟩ = some (.string ⟨#[]⟩) := blk_at HP.out 2 rfl
            have z2 : wc.frozen? ⟨p, 2, none⟩ = false := blk_frozen HP.out 2
            have p3 : wc.cell? ⟨p, 3, none⟩ = some (.slice none 0 0) := blk_at HP.out 3 rfl
            have z3 : wc.frozen? ⟨p, 3, none⟩ = false := blk_frozen HP.out 3
            have p4 : wc.cell? ⟨p, 4, none⟩ = some (.bool true) := blk_at HP.out 4 rfl
            have z4 : wc.frozen? ⟨p, 4, none⟩ = false := blk_frozen HP.out 4
            have p5 : wc.cell? ⟨p, 5, none⟩ = some (.bool true) := blk_at HP.out 5 rfl
            have z5 : wc.frozen? ⟨p, 5, none⟩ = false := blk_frozen HP.out 5
            go_upto_region 11 with (fail)
            clear c1 c2 c3 e0 e1 f0 f1 p0 z0 p1 z1 p2 z2 p3 z3 p4 z4 p5 z5
            have HP9 : Hid (((wc.setCell ⟨p, 2, none⟩ (.string y.f0)).setCell ⟨p, 3, none⟩ (.slice Af y.f1.length cf)).heap[p]? = some (.cells #[.string x.f0, .slice Ae x.f1.length ce, .string y.f0, .slice Af y.f1.length cf, .bool true, .bool true] 71 (0, 0))) := blk_put (blk_put (HP.out) 2 _ rfl) 3 _ rfl
            have HB9 : Hid (Below wr.heap.size wr ((wc.setCell ⟨p, 2, none⟩ (.string y.f0)).setCell ⟨p, 3, none⟩ (.slice Af y.f1.length cf))) := ((HB.out).setCell (by rw [HPE.out]; exact Nat.le_refl _) _).setCell (by rw [HPE.out]; exact Nat.le_refl _) _
            clear HP HB
            generalize ((wc.setCell ⟨p, 2, none⟩ (.string y.f0)).setCell ⟨p, 3, none⟩ (.slice Af y.f1.length cf)) = W9 at *
            have p0 : W9.cell? ⟨p, 0, none⟩ = some (.string x.f0) := blk_at HP9.out 0 rfl
            have p1 : W9.cell? ⟨p, 1, none⟩ = some (.slice Ae x.f1.length ce) := blk_at HP9.out 1 rfl
            have p2 : W9.cell? ⟨p, 2, none⟩ = some (.string y.f0) := blk_at HP9.out 2 rfl
            have p3 : W9.cell? ⟨p, 3, none⟩ = some (.slice Af y.f1.length cf) := blk_at HP9.out 3 rfl
            have p4 : W9.cell? ⟨p, 4, none⟩ = some (.bool true) := blk_at HP9.out 4 rfl
            have p5 : W9.cell? ⟨p, 5, none⟩ = some (.bool true) := blk_at HP9.out 5 rfl
            have HR9 : Hid (pre.map PVC.p ++ (⟨x, y, true, true⟩ : MPC) :: mrgC (a.drop (i + 1)) (b.drop (j + 1)) = mrgC a b) := Lib.hid (by
              rw [← HR.out, HDA.out, HDB.out, mrgC_both x y _ _ hxy hyx]
              )
            obtain ⟨fn, tmps, assign, body, hy', hR⟩ := HY.out pre (⟨⟨x, y, true, true⟩, Ae, ce, Af, cf, hle, hCe, hlf, hCf⟩ : PVC w0) W9 (HJ.out _ _ _ none HJs.out (grown_of_below HB9.out none) (by simp)) ⟨_, HR9.out⟩
            have hy : (Instr.yield l #[.agg #[.string x.f0, .slice Ae x.f1.length ce, .string y.f0, .slice Af y.f1.length cf, .bool true, .bool true]]).run Try.prog W9 = .ok (.round l fn tmps assign body) W9 := hy'
            have HRD := Lib.hid hR
            clear hy' hR
            refine (wpIn_wide (n := n0 + 1)).1 ?_
            gi_wp2
            refine HRD.out.mono ?_
            rintro e W3 (⟨rfl, hJ3, hk3⟩ | ⟨rfl, hJx3⟩)
            · have HJ3 := Lib.hid hJ3
              have HK3 : Hid (KpX n₀ X W W3) := HK.out.trans ((KpX.of_below HB9.out (Nat.le_trans HN0.out HK.out.size)).trans hk3)
              clear hJ3 hk3 p0 p1 p2 p3 p4 p5 hy
              gi_wp2
              go_wp2_with (fail)
              go_roundw
              case rel => exact ⟨i + 1, j + 1, pre ++ [(⟨⟨x, y, true, true⟩, Ae, ce, Af, cf, hle, hCe, hlf, hCf⟩ : PVC w0)], by omega, by omega, by go_num, by go_num, by rw [List.map_append, List.append_assoc]; exact HR9, HJ3, HK3⟩
              case measure => simp [intOf]; omega
            · have HJ3 := Lib.hid hJx3
              clear hJx3 p0 p1 p2 p3 p4 p5 hy
              gi_wp2
              go_wp2_with (fail)
              refine bodyPost_ret (results_none rfl _ _ _) rfl ?_
              exact ⟨⟨_, rfl⟩, .inr ⟨pre ++ [(⟨⟨x, y, true, true⟩, Ae, ce, Af, cf, hle, hCe, hlf, hCf⟩ : PVC w0)], ⟨_, by rw [List.map_append, List.append_assoc]; exact HR9.out⟩, HJ3.out⟩⟩
      · obtain rfl : m = j := by omega
        obtain ⟨ade, Ae, ce, hAe, ge0, ge1, hle, hCe⟩ := at_T63 HA.out (i : Int) (by omega) (by omega)
        subst hAe
        have HDA : Hid (a.drop i = rd_T63 a (i : Int) :: a.drop (i + 1)) := drop_getD_C _ _ (by rw [Hn.out]; omega)
        generalize rd_T63 a (i : Int) = x at *
        rw [Int.toNat_natCast] at ge0 ge1
        have HDB : Hid (b.drop m = []) := List.drop_eq_nil_of_le (by rw [Hm.out]; omega)
        have i1 : (i : Int) < (n : Int) := by omega
        have j1 : ((m : Int) == (m : Int)) = true := by simp
        have j3 : ((i : Int) == (n : Int)) = false := by simp; omega
        have HB : Hid (Below wr.heap.size wr wr) := Below.refl _ _
        have HKW : Hid (KpX n₀ X W wr) := HK.out.trans (KpX.of_below HB.out (Nat.le_trans HN0.out HK.out.size))
        have HW0 : Hid (Below w0.heap.size w0 wr) := HKW.out.below HBW.out HN1.out HX.out
        have c1 : wr.cell? ⟨b1, 0, none⟩ = some (.slice (some ade) n ca) := (HKW.out.boxed H1.out HL.out.1 HL.out.2.1).cell
        have c2 : wr.cell? ⟨b2, 0, none⟩ = some (.slice B m cb) := (HKW.out.boxed H2.out HL.out.2.2.1 HL.out.2.2.2.1).cell
        have c3 : wr.cell? ⟨b3, 0, none⟩ = some (.func (.func 36) #[] #[]) := (HKW.out.boxed H3.out HL.out.2.2.2.2.1 HL.out.2.2.2.2.2).cell
        have e0 := pw_cell_below HW0.out ge0
        have e1 := pw_cell_below HW0.out ge1
        clear HKW HW0
        clear HB
        have HXp : Hid ((wr.alloc (.cells #[.string ⟨#[]⟩, .slice none 0 0, .string ⟨#[]⟩, .slice none 0 0, .bool false, .bool false] 71)).heap[wr.heap.size]? = some (.cells #[.string ⟨#[]⟩, .slice none 0 0, .string ⟨#[]⟩, .slice none 0 0, .bool false, .bool false] 71 (0, 0))) := Lib.hid (blk_new wr _)
        have HB : Hid (Below wr.heap.size wr (wr.alloc (.cells #[.string ⟨#[]⟩, .slice none 0 0, .string ⟨#[]⟩, .slice none 0 0, .bool false, .bool false] 71))) := (Below.refl _ _).alloc (Nat.le_refl _) _
        go_upto_region 3 with (fail)
        clear c1 c2 c3 e0 e1
        generalize wr.alloc (.cells #[.string ⟨#[]⟩, .slice none 0 0, .string ⟨#[]⟩, .slice none 0 0, .bool false, .bool false] 71) = wc at *
        obtain ⟨p, hp⟩ : ∃ p, p = wr.heap.size := ⟨_, rfl⟩
        rw [← hp] at HXp ⊢
        have HP := HXp
        have HPE := Lib.hid hp
        clear HXp hp
        have HKW : Hid (KpX n₀ X W wc) := HK.out.trans (KpX.of_below HB.out (Nat.le_trans HN0.out HK.out.size))
        have HW0 : Hid (Below w0.heap.size w0 wc) := HKW.out.below HBW.out HN1.out HX.out
        have c1 : wc.cell? ⟨b1, 0, none⟩ = some (.slice (some ade) n ca) := (HKW.out.boxed H1.out HL.out.1 HL.out.2.1).cell
        have c2 : wc.cell? ⟨b2, 0, none⟩ = some (.slice B m cb) := (HKW.out.boxed H2.out HL.out.2.2.1 HL.out.2.2.2.1).cell
        have c3 : wc.cell? ⟨b3, 0, none⟩ = some (.func (.func 36) #[] #[]) := (HKW.out.boxed H3.out HL.out.2.2.2.2.1 HL.out.2.2.2.2.2).cell
        have e0 := pw_cell_below HW0.out ge0
        have e1 := pw_cell_below HW0.out ge1
        clear HKW HW0
        refine start_ (n := 27) (S := (fun w' => w'.cell? ⟨b1, 0, none⟩ = some (.slice (some ade) n ca) ∧ w'.cell? ⟨b2, 0, none⟩ = some (.slice B m cb) ∧ w'.cell? ⟨b3, 0, none⟩ = some (.func (.func 36) #[] #[]))) (ds := [26]) #[false, false, false, false, false, false, false, false, false, false, false, false, false, false, false, false, false, false, false, false, false, false, false, false, false, false, false] (by kernel_rfl) rfl rfl ⟨c1, c2, c3⟩ (fun hHeld => ?_)
        have HBd : Hid (Below wr.heap.size wr wc.drew) := HB.out.drew
        have HPd : Hid (wc.drew.heap[p]? = some (.cells #[.string ⟨#[]⟩, .slice none 0 0, .string ⟨#[]⟩, .slice none 0 0, .bool false, .bool false] 71 (0, 0))) := HP.out
        clear HB HP
        generalize wc.drew = W0 at hHeld HBd HPd ⊢
        clear c1 c2 c3
        refine pure_ (i := 0) (N := some 18) (v := ?_) (a' := ?_) #[true, false, false, false, false, false, false, false, false, false, false, false, false, false, false, false, false, false, false, false, false, false, false, false, false, false, false] rfl rfl (by kernel_rfl) (fun _ _ _ h => h) (Or.inl ⟨by rfl, ?_⟩) ?_ ?_
        rotate_left
        · intro w'
          go_simp
          with_reducible rfl
        rotate_left
        · go_simp
          rfl
        refine take_ (i := 1) (N := some 19) (v := ?_) (a' := ?_) #[true, true, false, false, false, false, false, false, false, false, false, false, false, false, false, false, false, false, false, false, false, false, false, false, false, false, false] rfl rfl (by kernel_rfl) (fun _ _ _ h => h) (Or.inl ⟨by rfl, ?_⟩) hHeld ?_ ?_
        rotate_left
        · rintro w' ⟨s0, s1, s2⟩
          go_simp
          with_reducible rfl
        rotate_left
        · go_simp
          rfl
        refine pure_ (i := 2) (N := some 20) (v := ?_) (a' := ?_) #[true, true, true, false, false, false, false, false, false, false, false, false, false, false, false, false, false, false, false, false, false, false, false, false, false, false, false] rfl rfl (by kernel_rfl) (fun _ _ _ h => h) (Or.inl ⟨by rfl, ?_⟩) ?_ ?_
        rotate_left
        · intro w'
          go_simp
          with_reducible rfl
        rotate_left
        · go_simp
          rfl
        refine pure_ (i := 3) (N := some 21) (v := ?_) (a' := ?_) #[true, true, true, true, false, false, false, false, false, false, false, false, false, false, false, false, false, false, false, false, false, false, false, false, false, false, false] rfl rfl (by kernel_rfl) (fun _ _ _ h => h) (Or.inl ⟨by rfl, ?_⟩) ?_ ?_
        rotate_left
        · intro w'
          go_simp
          with_reducible rfl
        rotate_left
        · go_simp
          rfl
        refine pure_ (i := 4) (N := some 22) (v := ?_) (a' := ?_) #[true, true, true, true, true, false, false, false, false, false, false, false, false, false, false, false, false, false, false, false, false, false, false, false, false, false, false] rfl rfl (by kernel_rfl) (fun _ _ _ h => h) (Or.inl ⟨by rfl, ?_⟩) ?_ ?_
        rotate_left
        · intro w'
          go_simp
          with_reducible rfl
        rotate_left
        · go_simp
          rfl
        refine pure_ (i := 5) (N := some 23) (v := undef) (a' := ?_) #[true, true, true, true, true, true, false, false, false, false, false, false, false, false, false, false, false, false, false, false, false, false, false, false, false, false, false] rfl rfl (by kernel_rfl) (fun _ _ _ h => h) (Or.inr ⟨by rfl, rfl⟩) ?_ ?_
        rotate_left
        · go_simp
          rfl
        refine pure_ (i := 6) (N := some 24) (v := undef) (a' := ?_) #[true, true, true, true, true, true, true, false, false, false, false, false, false, false, false, false, false, false, false, false, false, false, false, false, false, false, false] rfl rfl (by kernel_rfl) (fun _ _ _ h => h) (Or.inr ⟨by rfl, rfl⟩) ?_ ?_
        rotate_left
        · go_simp
          rfl
        refine pure_ (i := 7) (N := some 25) (v := undef) (a' := ?_) #[true, true, true, true, true, true, true, true, false, false, false, false, false, false, false, false, false, false, false, false, false, false, false, false, false, false, false] rfl rfl (by kernel_rfl) (fun _ _ _ h => h) (Or.inr ⟨by rfl, rfl⟩) ?_ ?_
        rotate_left
        · go_simp
          rfl
        refine pure_ (i := 8) (N := some 26) (v := undef) (a' := ?_) #[true, true, true, true, true, true, true, true, true, false, false, false, false, false, false, false, false, false, false, false, false, false, false, false, false, false, false] rfl rfl (by kernel_rfl) (fun _ _ _ h => h) (Or.inr ⟨by rfl, rfl⟩) ?_ ?_
        rotate_left
        · go_simp
          rfl
        refine pure_ (i := 9) (N := some 27) (v := undef) (a' := ?_) #[true, true, true, true, true, true, true, true, true, true, false, false, false, false, false, false, false, false, false, false, false, false, false, false, false, false, false] rfl rfl (by kernel_rfl) (fun _ _ _ h => h) (Or.inr ⟨by rfl, rfl⟩) ?_ ?_
        rotate_left
        · go_simp
          rfl
        refine pure_ (i := 10) (N := some 28) (v := undef) (a' := ?_) #[true, true, true, true, true, true, true, true, true, true, true, false, false, false, false, false, false, false, false, false, false, false, false, false, false, false, false] rfl rfl (by kernel_rfl) (fun _ _ _ h => h) (Or.inr ⟨by rfl, rfl⟩) ?_ ?_
        rotate_left
        · go_simp
          rfl
        refine pure_ (i := 11) (N := some 29) (v := undef) (a' := ?_) #[true, true, true, true, true, true, true, true, true, true, true, true, false, false, false, false, false, false, false, false, false, false, false, false, false, false, false] rfl rfl (by kernel_rfl) (fun _ _ _ h => h) (Or.inr ⟨by rfl, rfl⟩) ?_ ?_
        rotate_left
        · go_simp
          rfl
        refine pure_ (i := 12) (N := some 30) (v := undef) (a' := ?_) #[true, true, true, true, true, true, true, true, true, true, true, true, true, false, false, false, false, false, false, false, false, false, false, false, false, false, false] rfl rfl (by kernel_rfl) (fun _ _ _ h => h) (Or.inr ⟨by rfl, rfl⟩) ?_ ?_
        rotate_left
        · go_simp
          rfl
        refine pure_ (i := 13) (N := some 31) (v := undef) (a' := ?_) #[true, true, true, true, true, true, true, true, true, true, true, true, true, true, false, false, false, false, false, false, false, false, false, false, false, false, false] rfl rfl (by kernel_rfl) (fun _ _ _ h => h) (Or.inr ⟨by rfl, rfl⟩) ?_ ?_
        rotate_left
        · go_simp
          rfl
        refine pure_ (i := 14) (N := some 32) (v := undef) (a' := ?_) #[true, true, true, true, true, true, true, true, true, true, true, true, true, true, true, false, false, false, false, false, false, false, false, false, false, false, false] rfl rfl (by kernel_rfl) (fun _ _ _ h => h) (Or.inr ⟨by rfl, rfl⟩) ?_ ?_
        rotate_left
        · go_simp
          rfl
        refine pure_ (i := 15) (N := some 33) (v := undef) (a' := ?_) #[true, true, true, true, true, true, true, true, true, true, true, true, true, true, true, true, false, false, false, false, false, false, false, false, false, false, false] rfl rfl (by kernel_rfl) (fun _ _ _ h => h) (Or.inr ⟨by rfl, rfl⟩) ?_ ?_
        rotate_left
        · go_simp
          rfl
        refine pure_ (i := 16) (N := some 34) (v := undef) (a' := ?_) #[true, true, true, true, true, true, true, true, true, true, true, true, true, true, true, true, true, false, false, false, false, false, false, false, false, false, false] rfl rfl (by kernel_rfl) (fun _ _ _ h => h) (Or.inr ⟨by rfl, rfl⟩) ?_ ?_
        rotate_left
        · go_simp
          rfl
        refine pure_ (i := 17) (N := some 35) (v := undef) (a' := ?_) #[true, true, true, true, true, true, true, true, true, true, true, true, true, true, true, true, true, true, false, false, false, false, false, false, false, false, false] rfl rfl (by kernel_rfl) (fun _ _ _ h => h) (Or.inr ⟨by rfl, rfl⟩) ?_ ?_
        rotate_left
        · go_simp
          rfl
        refine pure_ (i := 18) (N := some 36) (v := undef) (a' := ?_) #[true, true, true, true, true, true, true, true, true, true, true, true, true, true, true, true, true, true, true, false, false, false, false, false, false, false, false] rfl rfl (by kernel_rfl) (fun _ _ _ h => h) (Or.inr ⟨by rfl, rfl⟩) ?_ ?_
        rotate_left
        · go_simp
          rfl
        refine pure_ (i := 19) (N := some 37) (v := undef) (a' := ?_) #[true, true, true, true, true, true, true, true, true, true, true, true, true, true, true, true, true, true, true, true, false, false, false, false, false, false, false] rfl rfl (by kernel_rfl) (fun _ _ _ h => h) (Or.inr ⟨by rfl, rfl⟩) ?_ ?_
        rotate_left
        · go_simp
          rfl
        refine pure_ (i := 20) (N := some 38) (v := undef) (a' := ?_) #[true, true, true, true, true, true, true, true, true, true, true, true, true, true, true, true, true, true, true, true, true, false, false, false, false, false, false] rfl rfl (by kernel_rfl) (fun _ _ _ h => h) (Or.inr ⟨by rfl, rfl⟩) ?_ ?_
        rotate_left
        · go_simp
          rfl
        refine pure_ (i := 21) (N := some 39) (v := undef) (a' := ?_) #[true, true, true, true, true, true, true, true, true, true, true, true, true, true, true, true, true, true, true, true, true, true, false, false, false, false, false] rfl rfl (by kernel_rfl) (fun _ _ _ h => h) (Or.inr ⟨by rfl, rfl⟩) ?_ ?_
        rotate_left
        · go_simp
          rfl
        refine pure_ (i := 22) (N := some 40) (v := undef) (a' := ?_) #[true, true, true, true, true, true, true, true, true, true, true, true, true, true, true, true, true, true, true, true, true, true, true, false, false, false, false] rfl rfl (by kernel_rfl) (fun _ _ _ h => h) (Or.inr ⟨by rfl, rfl⟩) ?_ ?_
        rotate_left
        · go_simp
          rfl
        refine pure_ (i := 23) (N := some 41) (v := undef) (a' := ?_) #[true, true, true, true, true, true, true, true, true, true, true, true, true, true, true, true, true, true, true, true, true, true, true, true, false, false, false] rfl rfl (by kernel_rfl) (fun _ _ _ h => h) (Or.inr ⟨by rfl, rfl⟩) ?_ ?_
        rotate_left
        · go_simp
          rfl
        refine pure_ (i := 24) (N := some 42) (v := ?_) (a' := ?_) #[true, true, true, true, true, true, true, true, true, true, true, true, true, true, true, true, true, true, true, true, true, true, true, true, true, false, false] rfl rfl (by kernel_rfl) (fun _ _ _ h => h) (Or.inl ⟨by rfl, ?_⟩) ?_ ?_
        rotate_left
        · intro w'
          go_simp
          with_reducible rfl
        rotate_left
        · go_simp
          rfl
        refine pure_ (i := 25) (N := some 43) (v := ?_) (a' := ?_) #[true, true, true, true, true, true, true, true, true, true, true, true, true, true, true, true, true, true, true, true, true, true, true, true, true, true, false] rfl rfl (by kernel_rfl) (fun _ _ _ h => h) (Or.inl ⟨by rfl, ?_⟩) ?_ ?_
        rotate_left
        · intro w'
          go_simp
          with_reducible rfl
        rotate_left
        · go_simp
          rfl
        refine last_ (i := 26) (N := none) #[true, true, true, true, true, true, true, true, true, true, true, true, true, true, true, true, true, true, true, true, true, true, true, true, true, true, true] rfl rfl (by kernel_rfl) (by decide) (fun K hK => ?_)
        have x4 : W0.cell? ⟨p, 4, none⟩ = some (.bool false) := blk_at HPd.out 4 rfl
        have z4 : W0.frozen? ⟨p, 4, none⟩ = false := blk_frozen HPd.out 4
        refine skip_ (w1 := W0.setCell ⟨p, 4, none⟩ (.bool true)) (by rfl) rfl (by go_simp; try rfl) ?_
        clear x4 z4
        refine hK.out _ _ ?_
        have HP : Hid ((W0.setCell ⟨p, 4, none⟩ (.bool true)).heap[p]? = some (.cells #[.string ⟨#[]⟩, .slice none 0 0, .string ⟨#[]⟩, .slice none 0 0, .bool true, .bool false] 71 (0, 0))) := blk_put HPd.out 4 _ rfl
        have HB : Hid (Below wr.heap.size wr (W0.setCell ⟨p, 4, none⟩ (.bool true))) := HBd.out.setCell (by rw [HPE.out]; exact Nat.le_refl _) _
        clear hK K HPd HBd hHeld
        generalize W0.setCell ⟨p, 4, none⟩ (.bool true) = wc at *
        refine done_ (by kernel_rfl) ?_
        go_upto_region 4 with (fail)
        have HKW : Hid (KpX n₀ X W wc) := HK.out.trans (KpX.of_below HB.out (Nat.le_trans HN0.out HK.out.size))
        have HW0 : Hid (Below w0.heap.size w0 wc) := HKW.out.below HBW.out HN1.out HX.out
        have c1 : wc.cell? ⟨b1, 0, none⟩ = some (.slice (some ade) n ca) := (HKW.out.boxed H1.out HL.out.1 HL.out.2.1).cell
        have c2 : wc.cell? ⟨b2, 0, none⟩ = some (.slice B m cb) := (HKW.out.boxed H2.out HL.out.2.2.1 HL.out.2.2.2.1).cell
        have c3 : wc.cell? ⟨b3, 0, none⟩ = some (.func (.func 36) #[] #[]) := (HKW.out.boxed H3.out HL.out.2.2.2.2.1 HL.out.2.2.2.2.2).cell
        have e0 := pw_cell_below HW0.out ge0
        have e1 := pw_cell_below HW0.out ge1
        clear HKW HW0
        refine start_ (n := 27) (S := (fun w' => w'.cell? ⟨b1, 0, none⟩ = some (.slice (some ade) n ca) ∧ w'.cell? ⟨b2, 0, none⟩ = some (.slice B m cb) ∧ w'.cell? ⟨b3, 0, none⟩ = some (.func (.func 36) #[] #[]))) (ds := [26]) #[false, false, false, false, false, false, false, false, false, false, false, false, false, false, false, false, false, false, false, false, false, false, false, false, false, false, false] (by kernel_rfl) rfl rfl ⟨c1, c2, c3⟩ (fun hHeld => ?_)
        have HBd : Hid (Below wr.heap.size wr wc.drew) := HB.out.drew
        have HPd : Hid (wc.drew.heap[p]? = some (.cells #[.string ⟨#[]⟩, .slice none 0 0, .string ⟨#[]⟩, .slice none 0 0, .bool true, .bool false] 71 (0, 0))) := HP.out
        clear HB HP
        generalize wc.drew = W0 at hHeld HBd HPd ⊢
        clear c1 c2 c3
        refine pure_ (i := 0) (N := some 44) (v := ?_) (a' := ?_) #[true, false, false, false, false, false, false, false, false, false, false, false, false, false, false, false, false, false, false, false, false, false, false, false, false, false, false] rfl rfl (by kernel_rfl) (fun _ _ _ h => h) (Or.inl ⟨by rfl, ?_⟩) ?_ ?_
        rotate_left
        · intro w'
          go_simp
          with_reducible rfl
        rotate_left
        · go_simp
          rfl
        refine take_ (i := 1) (N := some 45) (v := ?_) (a' := ?_) #[true, true, false, false, false, false, false, false, false, false, false, false, false, false, false, false, false, false, false, false, false, false, false, false, false, false, false] rfl rfl (by kernel_rfl) (fun _ _ _ h => h) (Or.inl ⟨by rfl, ?_⟩) hHeld ?_ ?_
        rotate_left
        · rintro w' ⟨s0, s1, s2⟩
          go_simp
          with_reducible rfl
        rotate_left
        · go_simp
          rfl
        refine pure_ (i := 2) (N := some 46) (v := ?_) (a' := ?_) #[true, true, true, false, false, false, false, false, false, false, false, false, false, false, false, false, false, false, false, false, false, false, false, false, false, false, false] rfl rfl (by kernel_rfl) (fun _ _ _ h => h) (Or.inl ⟨by rfl, ?_⟩) ?_ ?_
        rotate_left
        · intro w'
          go_simp
          with_reducible rfl
        rotate_left
        · go_simp
          rfl
        refine pure_ (i := 3) (N := some 47) (v := ?_) (a' := ?_) #[true, true, true, true, false, false, false, false, false, false, false, false, false, false, false, false, false, false, false, false, false, false, false, false, false, false, false] rfl rfl (by kernel_rfl) (fun _ _ _ h => h) (Or.inl ⟨by rfl, ?_⟩) ?_ ?_
        rotate_left
        · intro w'
          go_simp
          with_reducible rfl
        rotate_left
        · go_simp
          rfl
        refine pure_ (i := 4) (N := some 48) (v := ?_) (a' := ?_) #[true, true, true, true, true, false, false, false, false, false, false, false, false, false, false, false, false, false, false, false, false, false, false, false, false, false, false] rfl rfl (by kernel_rfl) (fun _ _ _ h => h) (Or.inl ⟨by rfl, ?_⟩) ?_ ?_
        rotate_left
        · intro w'
          go_simp
          with_reducible rfl
        rotate_left
        · go_simp
          rfl
        refine pure_ (i := 5) (N := some 49) (v := ?_) (a' := ?_) #[true, true, true, true, true, true, false, false, false, false, false, false, false, false, false, false, false, false, false, false, false, false, false, false, false, false, false] rfl rfl (by kernel_rfl) (fun _ _ _ h => h) (Or.inl ⟨by rfl, ?_⟩) ?_ ?_
        rotate_left
        · intro w'
          go_simp
          with_reducible rfl
        rotate_left
        · go_simp
          rfl
        refine take_ (i := 6) (N := some 50) (v := ?_) (a' := ?_) #[true, true, true, true, true, true, true, false, false, false, false, false, false, false, false, false, false, false, false, false, false, false, false, false, false, false, false] rfl rfl (by kernel_rfl) (fun _ _ _ h => h) (Or.inl ⟨by rfl, ?_⟩) hHeld ?_ ?_
        rotate_left
        · rintro w' ⟨s0, s1, s2⟩
          go_simp
          with_reducible rfl
        rotate_left
        · go_simp
          rfl
        refine pure_ (i := 7) (N := some 51) (v := ?_) (a' := ?_) #[true, true, true, true, true, true, true, true, false, false, false, false, false, false, false, false, false, false, false, false, false, false, false, false, false, false, false] rfl rfl (by kernel_rfl) (fun _ _ _ h => h) (Or.inl ⟨by rfl, ?_⟩) ?_ ?_
        rotate_left
        · intro w'
          go_simp
          with_reducible rfl
        rotate_left
        · go_simp
          rfl
        refine pure_ (i := 8) (N := some 52) (v := ?_) (a' := ?_) #[true, true, true, true, true, true, true, true, true, false, false, false, false, false, false, false, false, false, false, false, false, false, false, false, false, false, false] rfl rfl (by kernel_rfl) (fun _ _ _ h => h) (Or.inl ⟨by rfl, ?_⟩) ?_ ?_
        rotate_left
        · intro w'
          go_simp
          with_reducible rfl
        rotate_left
        · go_simp
          rfl
        refine pure_ (i := 9) (N := some 53) (v := ?_) (a' := ?_) #[true, true, true, true, true, true, true, true, true, true, false, false, false, false, false, false, false, false, false, false, false, false, false, false, false, false, false] rfl rfl (by kernel_rfl) (fun _ _ _ h => h) (Or.inl ⟨by rfl, ?_⟩) ?_ ?_
        rotate_left
        · intro w'
          go_simp
          with_reducible rfl
        rotate_left
        · go_simp
          rfl
        refine pure_ (i := 10) (N := some 54) (v := undef) (a' := ?_) #[true, true, true, true, true, true, true, true, true, true, true, false, false, false, false, false, false, false, false, false, false, false, false, false, false, false, false] rfl rfl (by kernel_rfl) (fun _ _ _ h => h) (Or.inr ⟨by rfl, rfl⟩) ?_ ?_
        rotate_left
        · go_simp
          rfl
        refine pure_ (i := 11) (N := some 55) (v := undef) (a' := ?_) #[true, true, true, true, true, true, true, true, true, true, true, true, false, false, false, false, false, false, false, false, false, false, false, false, false, false, false] rfl rfl (by kernel_rfl) (fun _ _ _ h => h) (Or.inr ⟨by rfl, rfl⟩) ?_ ?_
        rotate_left
        · go_simp
          rfl
        refine pure_ (i := 12) (N := some 56) (v := undef) (a' := ?_) #[true, true, true, true, true, true, true, true, true, true, true, true, true, false, false, false, false, false, false, false, false, false, false, false, false, false, false] rfl rfl (by kernel_rfl) (fun _ _ _ h => h) (Or.inr ⟨by rfl, rfl⟩) ?_ ?_
        rotate_left
        · go_simp
          rfl
        refine pure_ (i := 13) (N := some 57) (v := undef) (a' := ?_) #[true, true, true, true, true, true, true, true, true, true, true, true, true, true, false, false, false, false, false, false, false, false, false, false, false, false, false] rfl rfl (by kernel_rfl) (fun _ _ _ h => h) (Or.inr ⟨by rfl, rfl⟩) ?_ ?_
        rotate_left
        · go_simp
          rfl
        refine pure_ (i := 14) (N := some 58) (v := undef) (a' := ?_) #[true, true, true, true, true, true, true, true, true, true, true, true, true, true, true, false, false, false, false, false, false, false, false, false, false, false, false] rfl rfl (by kernel_rfl) (fun _ _ _ h => h) (Or.inr ⟨by rfl, rfl⟩) ?_ ?_
        rotate_left
        · go_simp
          rfl
        refine pure_ (i := 15) (N := some 59) (v := undef) (a' := ?_) #[true, true, true, true, true, true, true, true, true, true, true, true, true, true, true, true, false, false, false, false, false, false, false, false, false, false, false] rfl rfl (by kernel_rfl) (fun _ _ _ h => h) (Or.inr ⟨by rfl, rfl⟩) ?_ ?_
        rotate_left
        · go_simp
          rfl
        refine pure_ (i := 16) (N := some 60) (v := undef) (a' := ?_) #[true, true, true, true, true, true, true, true, true, true, true, true, true, true, true, true, true, false, false, false, false, false, false, false, false, false, false] rfl rfl (by kernel_rfl) (fun _ _ _ h => h) (Or.inr ⟨by rfl, rfl⟩) ?_ ?_
        rotate_left
        · go_simp
          rfl
        refine pure_ (i := 17) (N := some 61) (v := undef) (a' := ?_) #[true, true, true, true, true, true, true, true, true, true, true, true, true, true, true, true, true, true, false, false, false, false, false, false, false, false, false] rfl rfl (by kernel_rfl) (fun _ _ _ h => h) (Or.inr ⟨by rfl, rfl⟩) ?_ ?_
        rotate_left
        · go_simp
          rfl
        refine pure_ (i := 18) (N := some 62) (v := undef) (a' := ?_) #[true, true, true, true, true, true, true, true, true, true, true, true, true, true, true, true, true, true, true, false, false, false, false, false, false, false, false] rfl rfl (by kernel_rfl) (fun _ _ _ h => h) (Or.inr ⟨by rfl, rfl⟩) ?_ ?_
        rotate_left
        · go_simp
          rfl
        refine pure_ (i := 19) (N := some 63) (v := undef) (a' := ?_) #[true, true, true, true, true, true, true, true, true, true, true, true, true, true, true, true, true, true, true, true, false, false, false, false, false, false, false] rfl rfl (by kernel_rfl) (fun _ _ _ h => h) (Or.inr ⟨by rfl, rfl⟩) ?_ ?_
        rotate_left
        · go_simp
          rfl
        refine pure_ (i := 20) (N := some 64) (v := undef) (a' := ?_) #[true, true, true, true, true, true, true, true, true, true, true, true, true, true, true, true, true, true, true, true, true, false, false, false, false, false, false] rfl rfl (by kernel_rfl) (fun _ _ _ h => h) (Or.inr ⟨by rfl, rfl⟩) ?_ ?_
        rotate_left
        · go_simp
          rfl
        refine pure_ (i := 21) (N := some 65) (v := undef) (a' := ?_) #[true, true, true, true, true, true, true, true, true, true, true, true, true, true, true, true, true, true, true, true, true, true, false, false, false, false, false] rfl rfl (by kernel_rfl) (fun _ _ _ h => h) (Or.inr ⟨by rfl, rfl⟩) ?_ ?_
        rotate_left
        · go_simp
          rfl
        refine pure_ (i := 22) (N := some 66) (v := undef) (a' := ?_) #[true, true, true, true, true, true, true, true, true, true, true, true, true, true, true, true, true, true, true, true, true, true, true, false, false, false, false] rfl rfl (by kernel_rfl) (fun _ _ _ h => h) (Or.inr ⟨by rfl, rfl⟩) ?_ ?_
        rotate_left
        · go_simp
          rfl
        refine pure_ (i := 23) (N := some 67) (v := ?_) (a' := ?_) #[true, true, true, true, true, true, true, true, true, true, true, true, true, true, true, true, true, true, true, true, true, true, true, true, false, false, false] rfl rfl (by kernel_rfl) (fun _ _ _ h => h) (Or.inl ⟨by rfl, ?_⟩) ?_ ?_
        rotate_left
        · intro w'
          go_simp
          with_reducible rfl
        rotate_left
        · go_simp
          rfl
        refine pure_ (i := 24) (N := some 68) (v := ?_) (a' := ?_) #[true, true, true, true, true, true, true, true, true, true, true, true, true, true, true, true, true, true, true, true, true, true, true, true, true, false, false] rfl rfl (by kernel_rfl) (fun _ _ _ h => h) (Or.inl ⟨by rfl, ?_⟩) ?_ ?_
        rotate_left
        · intro w'
          go_simp
          with_reducible rfl
        rotate_left
        · go_simp
          rfl
        refine pure_ (i := 25) (N := some 69) (v := ?_) (a' := ?_) #[true, true, true, true, true, true, true, true, true, true, true, true, true, true, true, true, true, true, true, true, true, true, true, true, true, true, false] rfl rfl (by kernel_rfl) (fun _ _ _ h => h) (Or.inl ⟨by rfl, ?_⟩) ?_ ?_
        rotate_left
        · intro w'
          go_simp
          with_reducible rfl
        rotate_left
        · go_simp
          rfl
        refine last_ (i := 26) (N := none) #[true, true, true, true, true, true, true, true, true, true, true, true, true, true, true, true, true, true, true, true, true, true, true, true, true, true, true] rfl rfl (by kernel_rfl) (by decide) (fun K hK => ?_)
        have x4 : W0.cell? ⟨p, 5, none⟩ = some (.bool false) := blk_at HPd.out 5 rfl
        have z4 : W0.frozen? ⟨p, 5, none⟩ = false := blk_frozen HPd.out 5
        refine skip_ (w1 := W0.setCell ⟨p, 5, none⟩ (.bool false)) (by rfl) rfl (by go_simp; try rfl) ?_
        clear x4 z4
        refine hK.out _ _ ?_
        have HP : Hid ((W0.setCell ⟨p, 5, none⟩ (.bool false)).heap[p]? = some (.cells #[.string ⟨#[]⟩, .slice none 0 0, .string ⟨#[]⟩, .slice none 0 0, .bool true, .bool false] 71 (0, 0))) := blk_put HPd.out 5 _ rfl
        have HB : Hid (Below wr.heap.size wr (W0.setCell ⟨p, 5, none⟩ (.bool false))) := HBd.out.setCell (by rw [HPE.out]; exact Nat.le_refl _) _
        clear hK K HPd HBd hHeld
        generalize W0.setCell ⟨p, 5, none⟩ (.bool false) = wc at *
        refine done_ (by kernel_rfl) ?_
        have HKW : Hid (KpX n₀ X W wc) := HK.out.trans (KpX.of_below HB.out (Nat.le_trans HN0.out HK.out.size))
        have HW0 : Hid (Below w0.heap.size w0 wc) := HKW.out.below HBW.out HN1.out HX.out
        have c1 : wc.cell? ⟨b1, 0, none⟩ = some (.slice (some ade) n ca) := (HKW.out.boxed H1.out HL.out.1 HL.out.2.1).cell
        have c2 : wc.cell? ⟨b2, 0, none⟩ = some (.slice B m cb) := (HKW.out.boxed H2.out HL.out.2.2.1 HL.out.2.2.2.1).cell
        have c3 : wc.cell? ⟨b3, 0, none⟩ = some (.func (.func 36) #[] #[]) := (HKW.out.boxed H3.out HL.out.2.2.2.2.1 HL.out.2.2.2.2.2).cell
        have e0 := pw_cell_below HW0.out ge0
        have e1 := pw_cell_below HW0.out ge1
        clear HKW HW0
        have p0 : wc.cell? ⟨p, 0, none⟩ = some (.string ⟨#[]⟩) := blk_at HP.out 0 rfl
        have z0 : wc.frozen? ⟨p, 0, none⟩ = false := blk_frozen HP.out 0
        have p1 : wc.cell? ⟨p, 1, none⟩ = some (.slice none 0 0) := blk_at HP.out 1 rfl
        have z1 : wc.frozen? ⟨p, 1, none⟩ = false := blk_frozen HP.out 1
        have p2 : wc.cell? ⟨p, 2, none⟩ = some (.string ⟨#[]⟩) := blk_at HP.out 2 rfl
        have z2 : wc.frozen? ⟨p, 2, none⟩ = false := blk_frozen HP.out 2
        have p3 : wc.cell? ⟨p, 3, none⟩ = some (.slice none 0 0) := blk_at HP.out 3 rfl
        have z3 : wc.frozen? ⟨p, 3, none⟩ = false := blk_frozen HP.out 3
        have p4 : wc.cell? ⟨p, 4, none⟩ = some (.bool true) := blk_at HP.out 4 rfl
        have z4 : wc.frozen? ⟨p, 4, none⟩ = false := blk_frozen HP.out 4
        have p5 : wc.cell? ⟨p, 5, none⟩ = some (.bool false) := blk_at HP.out 5 rfl
        have z5 : wc.frozen? ⟨p, 5, none⟩ = false := blk_frozen HP.out 5
        go_upto_region 11 with (fail)
        clear c1 c2 c3 e0 e1 p0 z0 p1 z1 p2 z2 p3 z3 p4 z4 p5 z5
        have HP9 : Hid (((wc.setCell ⟨p, 0, none⟩ (.string x.f0)).setCell ⟨p, 1, none⟩ (.slice Ae x.f1.length ce)).heap[p]? = some (.cells #[.string x.f0, .slice Ae x.f1.length ce, .string ⟨#[]⟩, .slice none 0 0, .bool true, .bool false] 71 (0, 0))) := blk_put (blk_put (HP.out) 0 _ rfl) 1 _ rfl
        have HB9 : Hid (Below wr.heap.size wr ((wc.setCell ⟨p, 0, none⟩ (.string x.f0)).setCell ⟨p, 1, none⟩ (.slice Ae x.f1.length ce))) := ((HB.out).setCell (by rw [HPE.out]; exact Nat.le_refl _) _).setCell (by rw [HPE.out]; exact Nat.le_refl _) _
        clear HP HB
        generalize ((wc.setCell ⟨p, 0, none⟩ (.string x.f0)).setCell ⟨p, 1, none⟩ (.slice Ae x.f1.length ce)) = W9 at *
        have p0 : W9.cell? ⟨p, 0, none⟩ = some (.string x.f0) := blk_at HP9.out 0 rfl
        have p1 : W9.cell? ⟨p, 1, none⟩ = some (.slice Ae x.f1.length ce) := blk_at HP9.out 1 rfl
        have p2 : W9.cell? ⟨p, 2, none⟩ = some (.string ⟨#[]⟩) := blk_at HP9.out 2 rfl
        have p3 : W9.cell? ⟨p, 3, none⟩ = some (.slice none 0 0) := blk_at HP9.out 3 rfl
        have p4 : W9.cell? ⟨p, 4, none⟩ = some (.bool true) := blk_at HP9.out 4 rfl
        have p5 : W9.cell? ⟨p, 5, none⟩ = some (.bool false) := blk_at HP9.out 5 rfl
        have HR9 : Hid (pre.map PVC.p ++ (⟨x, z63, true, false⟩ : MPC) :: mrgC (a.drop (i + 1)) (b.drop (m)) = mrgC a b) := Lib.hid (by
          rw [← HR.out, HDA.out, HDB.out, mrgC_l x _]
          )
        obtain ⟨fn, tmps, assign, body, hy', hR⟩ := HY.out pre (⟨⟨x, z63, true, false⟩, Ae, ce, none, 0, hle, hCe, (Nat.le_refl 0), (C_none87 w0)⟩ : PVC w0) W9 (HJ.out _ _ _ none HJs.out (grown_of_below HB9.out none) (by simp)) ⟨_, HR9.out⟩
        have hy : (Instr.yield l #[.agg #[.string x.f0, .slice Ae x.f1.length ce, .string ⟨#[]⟩, .slice none 0 0, .bool true, .bool false]]).run Try.prog W9 = .ok (.round l fn tmps assign body) W9 := hy'
        have HRD := Lib.hid hR
        clear hy' hR
        refine (wpIn_wide (n := n0 + 1)).1 ?_
        gi_wp2
        refine HRD.out.mono ?_
        rintro e W3 (⟨rfl, hJ3, hk3⟩ | ⟨rfl, hJx3⟩)
        · have HJ3 := Lib.hid hJ3
          have HK3 : Hid (KpX n₀ X W W3) := HK.out.trans ((KpX.of_below HB9.out (Nat.le_trans HN0.out HK.out.size)).trans hk3)
          clear hJ3 hk3 p0 p1 p2 p3 p4 p5 hy
          gi_wp2
          go_wp2_with (fail)
          go_roundw
          case rel => exact ⟨i + 1, m, pre ++ [(⟨⟨x, z63, true, false⟩, Ae, ce, none, 0, hle, hCe, (Nat.le_refl 0), (C_none87 w0)⟩ : PVC w0)], by omega, by omega, by go_num, by go_num, by rw [List.map_append, List.append_assoc]; exact HR9, HJ3, HK3⟩
          case measure => simp [intOf]; omega
        · have HJ3 := Lib.hid hJx3
          clear hJx3 p0 p1 p2 p3 p4 p5 hy
          gi_wp2
          go_wp2_with (fail)
          refine bodyPost_ret (results_none rfl _ _ _) rfl ?_
          exact ⟨⟨_, rfl⟩, .inr ⟨pre ++ [(⟨⟨x, z63, true, false⟩, Ae, ce, none, 0, hle, hCe, (Nat.le_refl 0), (C_none87 w0)⟩ : PVC w0)], ⟨_, by rw [List.map_append, List.append_assoc]; exact HR9.out⟩, HJ3.out⟩⟩
    · obtain rfl : n = i := by omega
      by_cases hjm : j < m
      · obtain ⟨adf, Af, cf, hAf, gf0, gf1, hlf, hCf⟩ := at_T63 HBB.out (j : Int) (by omega) (by omega)
        subst hAf
        have HDB : Hid (b.drop j = rd_T63 b (j : Int) :: b.drop (j + 1)) := drop_getD_C _ _ (by rw [Hm.out]; omega)
        generalize rd_T63 b (j : Int) = y at *
        rw [Int.toNat_natCast] at gf0 gf1
        have HDA : Hid (a.drop n = []) := List.drop_eq_nil_of_le (by rw [Hn.out]; omega)
        have j2 : (j : Int) < (m : Int) := by omega
        have j1 : ((n : Int) == (n : Int)) = true := by simp
        have j3 : ((j : Int) == (m : Int)) = false := by simp; omega
        have HB : Hid (Below wr.heap.size wr wr) := Below.refl _ _
        have HKW : Hid (KpX n₀ X W wr) := HK.out.trans (KpX.of_below HB.out (Nat.le_trans HN0.out HK.out.size))
        have HW0 : Hid (Below w0.heap.size w0 wr) := HKW.out.below HBW.out HN1.out HX.out
        have c1 : wr.cell? ⟨b1, 0, none⟩ = some (.slice A n ca) := (HKW.out.boxed H1.out HL.out.1 HL.out.2.1).cell
        have c2 : wr.cell? ⟨b2, 0, none⟩ = some (.slice (some adf) m cb) := (HKW.out.boxed H2.out HL.out.2.2.1 HL.out.2.2.2.1).cell
        have c3 : wr.cell? ⟨b3, 0, none⟩ = some (.func (.func 36) #[] #[]) := (HKW.out.boxed H3.out HL.out.2.2.2.2.1 HL.out.2.2.2.2.2).cell
        have f0 := pw_cell_below HW0.out gf0
        have f1 := pw_cell_below HW0.out gf1
        clear HKW HW0
        clear HB
        have HXp : Hid ((wr.alloc (.cells #[.string ⟨#[]⟩, .slice none 0 0, .string ⟨#[]⟩, .slice none 0 0, .bool false, .bool false] 71)).heap[wr.heap.size]? = some (.cells #[.string ⟨#[]⟩, .slice none 0 0, .string ⟨#[]⟩, .slice none 0 0, .bool false, .bool false] 71 (0, 0))) := Lib.hid (blk_new wr _)
        have HB : Hid (Below wr.heap.size wr (wr.alloc (.cells #[.string ⟨#[]⟩, .slice none 0 0, .string ⟨#[]⟩, .slice none 0 0, .bool false, .bool false] 71))) := (Below.refl _ _).alloc (Nat.le_refl _) _
        go_upto_region 3 with (fail)
        clear c1 c2 c3 f0 f1
        generalize wr.alloc (.cells #[.string ⟨#[]⟩, .slice none 0 0, .string ⟨#[]⟩, .slice none 0 0, .bool false, .bool false] 71) = wc at *
        obtain ⟨p, hp⟩ : ∃ p, p = wr.heap.size := ⟨_, rfl⟩
        rw [← hp] at HXp ⊢
        have HP := HXp
        have HPE := Lib.hid hp
        clear HXp hp
        have HKW : Hid (KpX n₀ X W wc) := HK.out.trans (KpX.of_below HB.out (Nat.le_trans HN0.out HK.out.size))
        have HW0 : Hid (Below w0.heap.size w0 wc) := HKW.out.below HBW.out HN1.out HX.out
        have c1 : wc.cell? ⟨b1, 0, none⟩ = some (.slice A n ca) := (HKW.out.boxed H1.out HL.out.1 HL.out.2.1).cell
        have c2 : wc.cell? ⟨b2, 0, none⟩ = some (.slice (some adf) m cb) := (HKW.out.boxed H2.out HL.out.2.2.1 HL.out.2.2.2.1).cell
        have c3 : wc.cell? ⟨b3, 0, none⟩ = some (.func (.func 36) #[] #[]) := (HKW.out.boxed H3.out HL.out.2.2.2.2.1 HL.out.2.2.2.2.2).cell
        have f0 := pw_cell_below HW0.out gf0
        have f1 := pw_cell_below HW0.out gf1
        clear HKW HW0
        refine start_ (n := 27) (S := (fun w' => w'.cell? ⟨b1, 0, none⟩ = some (.slice A n ca) ∧ w'.cell? ⟨b2, 0, none⟩ = some (.slice (some adf) m cb) ∧ w'.cell? ⟨b3, 0, none⟩ = some (.func (.func 36) #[] #[]))) (ds := [26]) #[false, false, false, false, false, false, false, false, false, false, false, false, false, false, false, false, false, false, false, false, false, false, false, false, false, false, false] (by kernel_rfl) rfl rfl ⟨c1, c2, c3⟩ (fun hHeld => ?_)
        have HBd : Hid (Below wr.heap.size wr wc.drew) := HB.out.drew
        have HPd : Hid (wc.drew.heap[p]? = some (.cells #[.string ⟨#[]⟩, .slice none 0 0, .string ⟨#[]⟩, .slice none 0 0, .bool false, .bool false] 71 (0, 0))) := HP.out
        clear HB HP
        generalize wc.drew = W0 at hHeld HBd HPd ⊢
        clear c1 c2 c3
        refine pure_ (i := 0) (N := some 18) (v := ?_) (a' := ?_) #[true, false, false, false, false, false, false, false, false, false, false, false, false, false, false, false, false, false, false, false, false, false, false, false, false, false, false] rfl rfl (by kernel_rfl) (fun _ _ _ h => h) (Or.inl ⟨by rfl, ?_⟩) ?_ ?_
        rotate_left
        · intro w'
          go_simp
          with_reducible rfl
        rotate_left
        · go_simp
          rfl
        refine take_ (i := 1) (N := some 19) (v := ?_) (a' := ?_) #[true, true, false, false, false, false, false, false, false, false, false, false, false, false, false, false, false, false, false, false, false, false, false, false, false, false, false] rfl rfl (by kernel_rfl) (fun _ _ _ h => h) (Or.inl ⟨by rfl, ?_⟩) hHeld ?_ ?_
        rotate_left
        · rintro w' ⟨s0, s1, s2⟩
          go_simp
          with_reducible rfl
        rotate_left
        · go_simp
          rfl
        refine pure_ (i := 2) (N := some 20) (v := ?_) (a' := ?_) #[true, true, true, false, false, false, false, false, false, false, false, false, false, false, false, false, false, false, false, false, false, false, false, false, false, false, false] rfl rfl (by kernel_rfl) (fun _ _ _ h => h) (Or.inl ⟨by rfl, ?_⟩) ?_ ?_
        rotate_left
        · intro w'
          go_simp
          with_reducible rfl
        rotate_left
        · go_simp
          rfl
        refine pure_ (i := 3) (N := some 21) (v := ?_) (a' := ?_) #[true, true, true, true, false, false, false, false, false, false, false, false, false, false, false, false, false, false, false, false, false, false, false, false, false, false, false] rfl rfl (by kernel_rfl) (fun _ _ _ h => h) (Or.inl ⟨by rfl, ?_⟩) ?_ ?_
        rotate_left
        · intro w'
          go_simp
          with_reducible rfl
        rotate_left
        · go_simp
          rfl
        refine pure_ (i := 4) (N := some 22) (v := ?_) (a' := ?_) #[true, true, true, true, true, false, false, false, false, false, false, false, false, false, false, false, false, false, false, false, false, false, false, false, false, false, false] rfl rfl (by kernel_rfl) (fun _ _ _ h => h) (Or.inl ⟨by rfl, ?_⟩) ?_ ?_
        rotate_left
        · intro w'
          go_simp
          with_reducible rfl
        rotate_left
        · go_simp
          rfl
        refine pure_ (i := 5) (N := some 23) (v := ?_) (a' := ?_) #[true, true, true, true, true, true, false, false, false, false, false, false, false, false, false, false, false, false, false, false, false, false, false, false, false, false, false] rfl rfl (by kernel_rfl) (fun _ _ _ h => h) (Or.inl ⟨by rfl, ?_⟩) ?_ ?_
        rotate_left
        · intro w'
          go_simp
          with_reducible rfl
        rotate_left
        · go_simp
          rfl
        refine take_ (i := 6) (N := some 24) (v := ?_) (a' := ?_) #[true, true, true, true, true, true, true, false, false, false, false, false, false, false, false, false, false, false, false, false, false, false, false, false, false, false, false] rfl rfl (by kernel_rfl) (fun _ _ _ h => h) (Or.inl ⟨by rfl, ?_⟩) hHeld ?_ ?_
        rotate_left
        · rintro w' ⟨s0, s1, s2⟩
          go_simp
          with_reducible rfl
        rotate_left
        · go_simp
          rfl
        refine pure_ (i := 7) (N := some 25) (v := ?_) (a' := ?_) #[true, true, true, true, true, true, true, true, false, false, false, false, false, false, false, false, false, false, false, false, false, false, false, false, false, false, false] rfl rfl (by kernel_rfl) (fun _ _ _ h => h) (Or.inl ⟨by rfl, ?_⟩) ?_ ?_
        rotate_left
        · intro w'
          go_simp
          with_reducible rfl
        rotate_left
        · go_simp
          rfl
        refine pure_ (i := 8) (N := some 26) (v := ?_) (a' := ?_) #[true, true, true, true, true, true, true, true, true, false, false, false, false, false, false, false, false, false, false, false, false, false, false, false, false, false, false] rfl rfl (by kernel_rfl) (fun _ _ _ h => h) (Or.inl ⟨by rfl, ?_⟩) ?_ ?_
        rotate_left
        · intro w'
          go_simp
          with_reducible rfl
        rotate_left
        · go_simp
          rfl
        refine pure_ (i := 9) (N := some 27) (v := ?_) (a' := ?_) #[true, true, true, true, true, true, true, true, true, true, false, false, false, false, false, false, false, false, false, false, false, false, false, false, false, false, false] rfl rfl (by kernel_rfl) (fun _ _ _ h => h) (Or.inl ⟨by rfl, ?_⟩) ?_ ?_
        rotate_left
        · intro w'
          go_simp
          with_reducible rfl
        rotate_left
        · go_simp
          rfl
        refine pure_ (i := 10) (N := some 28) (v := undef) (a' := ?_) #[true, true, true, true, true, true, true, true, true, true, true, false, false, false, false, false, false, false, false, false, false, false, false, false, false, false, false] rfl rfl (by kernel_rfl) (fun _ _ _ h => h) (Or.inr ⟨by rfl, rfl⟩) ?_ ?_
        rotate_left
        · go_simp
          rfl
        refine pure_ (i := 11) (N := some 29) (v := undef) (a' := ?_) #[true, true, true, true, true, true, true, true, true, true, true, true, false, false, false, false, false, false, false, false, false, false, false, false, false, false, false] rfl rfl (by kernel_rfl) (fun _ _ _ h => h) (Or.inr ⟨by rfl, rfl⟩) ?_ ?_
        rotate_left
        · go_simp
          rfl
        refine pure_ (i := 12) (N := some 30) (v := undef) (a' := ?_) #[true, true, true, true, true, true, true, true, true, true, true, true, true, false, false, false, false, false, false, false, false, false, false, false, false, false, false] rfl rfl (by kernel_rfl) (fun _ _ _ h => h) (Or.inr ⟨by rfl, rfl⟩) ?_ ?_
        rotate_left
        · go_simp
          rfl
        refine pure_ (i := 13) (N := some 31) (v := undef) (a' := ?_) #[true, true, true, true, true, true, true, true, true, true, true, true, true, true, false, false, false, false, false, false, false, false, false, false, false, false, false] rfl rfl (by kernel_rfl) (fun _ _ _ h => h) (Or.inr ⟨by rfl, rfl⟩) ?_ ?_
        rotate_left
        · go_simp
          rfl
        refine pure_ (i := 14) (N := some 32) (v := undef) (a' := ?_) #[true, true, true, true, true, true, true, true, true, true, true, true, true, true, true, false, false, false, false, false, false, false, false, false, false, false, false] rfl rfl (by kernel_rfl) (fun _ _ _ h => h) (Or.inr ⟨by rfl, rfl⟩) ?_ ?_
        rotate_left
        · go_simp
          rfl
        refine pure_ (i := 15) (N := some 33) (v := undef) (a' := ?_) #[true, true, true, true, true, true, true, true, true, true, true, true, true, true, true, true, false, false, false, false, false, false, false, false, false, false, false] rfl rfl (by kernel_rfl) (fun _ _ _ h => h) (Or.inr ⟨by rfl, rfl⟩) ?_ ?_
        rotate_left
        · go_simp
          rfl
        refine pure_ (i := 16) (N := some 34) (v := undef) (a' := ?_) #[true, true, true, true, true, true, true, true, true, true, true, true, true, true, true, true, true, false, false, false, false, false, false, false, false, false, false] rfl rfl (by kernel_rfl) (fun _ _ _ h => h) (Or.inr ⟨by rfl, rfl⟩) ?_ ?_
        rotate_left
        · go_simp
          rfl
        refine pure_ (i := 17) (N := some 35) (v := undef) (a' := ?_) #[true, true, true, true, true, true, true, true, true, true, true, true, true, true, true, true, true, true, false, false, false, false, false, false, false, false, false] rfl rfl (by kernel_rfl) (fun _ _ _ h => h) (Or.inr ⟨by rfl, rfl⟩) ?_ ?_
        rotate_left
        · go_simp
          rfl
        refine pure_ (i := 18) (N := some 36) (v := undef) (a' := ?_) #[true, true, true, true, true, true, true, true, true, true, true, true, true, true, true, true, true, true, true, false, false, false, false, false, false, false, false] rfl rfl (by kernel_rfl) (fun _ _ _ h => h) (Or.inr ⟨by rfl, rfl⟩) ?_ ?_
        rotate_left
        · go_simp
          rfl
        refine pure_ (i := 19) (N := some 37) (v := undef) (a' := ?_) #[true, true, true, true, true, true, true, true, true, true, true, true, true, true, true, true, true, true, true, true, false, false, false, false, false, false, false] rfl rfl (by kernel_rfl) (fun _ _ _ h => h) (Or.inr ⟨by rfl, rfl⟩) ?_ ?_
        rotate_left
        · go_simp
          rfl
        refine pure_ (i := 20) (N := some 38) (v := undef) (a' := ?_) #[true, true, true, true, true, true, true, true, true, true, true, true, true, true, true, true, true, true, true, true, true, false, false, false, false, false, false] rfl rfl (by kernel_rfl) (fun _ _ _ h => h) (Or.inr ⟨by rfl, rfl⟩) ?_ ?_
        rotate_left
        · go_simp
          rfl
        refine pure_ (i := 21) (N := some 39) (v := undef) (a' := ?_) #[true, true, true, true, true, true, true, true, true, true, true, true, true, true, true, true, true, true, true, true, true, true, false, false, false, false, false] rfl rfl (by kernel_rfl) (fun _ _ _ h => h) (Or.inr ⟨by rfl, rfl⟩) ?_ ?_
        rotate_left
        · go_simp
          rfl
        refine pure_ (i := 22) (N := some 40) (v := undef) (a' := ?_) #[true, true, true, true, true, true, true, true, true, true, true, true, true, true, true, true, true, true, true, true, true, true, true, false, false, false, false] rfl rfl (by kernel_rfl) (fun _ _ _ h => h) (Or.inr ⟨by rfl, rfl⟩) ?_ ?_
        rotate_left
        · go_simp
          rfl
        refine pure_ (i := 23) (N := some 41) (v := ?_) (a' := ?_) #[true, true, true, true, true, true, true, true, true, true, true, true, true, true, true, true, true, true, true, true, true, true, true, true, false, false, false] rfl rfl (by kernel_rfl) (fun _ _ _ h => h) (Or.inl ⟨by rfl, ?_⟩) ?_ ?_
        rotate_left
        · intro w'
          go_simp
          with_reducible rfl
        rotate_left
        · go_simp
          rfl
        refine pure_ (i := 24) (N := some 42) (v := ?_) (a' := ?_) #[true, true, true, true, true, true, true, true, true, true, true, true, true, true, true, true, true, true, true, true, true, true, true, true, true, false, false] rfl rfl (by kernel_rfl) (fun _ _ _ h => h) (Or.inl ⟨by rfl, ?_⟩) ?_ ?_
        rotate_left
        · intro w'
          go_simp
          with_reducible rfl
        rotate_left
        · go_simp
          rfl
        refine pure_ (i := 25) (N := some 43) (v := ?_) (a' := ?_) #[true, true, true, true, true, true, true, true, true, true, true, true, true, true, true, true, true, true, true, true, true, true, true, true, true, true, false] rfl rfl (by kernel_rfl) (fun _ _ _ h => h) (Or.inl ⟨by rfl, ?_⟩) ?_ ?_
        rotate_left
        · intro w'
          go_simp
          with_reducible rfl
        rotate_left
        · go_simp
          rfl
        refine last_ (i := 26) (N := none) #[true, true, true, true, true, true, true, true, true, true, true, true, true, true, true, true, true, true, true, true, true, true, true, true, true, true, true] rfl rfl (by kernel_rfl) (by decide) (fun K hK => ?_)
        have x4 : W0.cell? ⟨p, 4, none⟩ = some (.bool false) := blk_at HPd.out 4 rfl
        have z4 : W0.frozen? ⟨p, 4, none⟩ = false := blk_frozen HPd.out 4
        refine skip_ (w1 := W0.setCell ⟨p, 4, none⟩ (.bool false)) (by rfl) rfl (by go_simp; try rfl) ?_
        clear x4 z4
        refine hK.out _ _ ?_
        have HP : Hid ((W0.setCell ⟨p, 4, none⟩ (.bool false)).heap[p]? = some (.cells #[.string ⟨#[]⟩, .slice none 0 0, .string ⟨#[]⟩, .slice none 0 0, .bool false, .bool false] 71 (0, 0))) := blk_put HPd.out 4 _ rfl
        have HB : Hid (Below wr.heap.size wr (W0.setCell ⟨p, 4, none⟩ (.bool false))) := HBd.out.setCell (by rw [HPE.out]; exact Nat.le_refl _) _
        clear hK K HPd HBd hHeld
        generalize W0.setCell ⟨p, 4, none⟩ (.bool false) = wc at *
        refine done_ (by kernel_rfl) ?_
        go_upto_region 4 with (fail)
        have HKW : Hid (KpX n₀ X W wc) := HK.out.trans (KpX.of_below HB.out (Nat.le_trans HN0.out HK.out.size))
        have HW0 : Hid (Below w0.heap.size w0 wc) := HKW.out.below HBW.out HN1.out HX.out
        have c1 : wc.cell? ⟨b1, 0, none⟩ = some (.slice A n ca) := (HKW.out.boxed H1.out HL.out.1 HL.out.2.1).cell
        have c2 : wc.cell? ⟨b2, 0, none⟩ = some (.slice (some adf) m cb) := (HKW.out.boxed H2.out HL.out.2.2.1 HL.out.2.2.2.1).cell
        have c3 : wc.cell? ⟨b3, 0, none⟩ = some (.func (.func 36) #[] #[]) := (HKW.out.boxed H3.out HL.out.2.2.2.2.1 HL.out.2.2.2.2.2).cell
        have f0 := pw_cell_below HW0.out gf0
        have f1 := pw_cell_below HW0.out gf1
        clear HKW HW0
        refine start_ (n := 27) (S := (fun w' => w'.cell? ⟨b1, 0, none⟩ = some (.slice A n ca) ∧ w'.cell? ⟨b2, 0, none⟩ = some (.slice (some adf) m cb) ∧ w'.cell? ⟨b3, 0, none⟩ = some (.func (.func 36) #[] #[]))) (ds := [26]) #[false, false, false, false, false, false, false, false, false, false, false, false, false, false, false, false, false, false, false, false, false, false, false, false, false, false, false] (by kernel_rfl) rfl rfl ⟨c1, c2, c3⟩ (fun hHeld => ?_)
        have HBd : Hid (Below wr.heap.size wr wc.drew) := HB.out.drew
        have HPd : Hid (wc.drew.heap[p]? = some (.cells #[.string ⟨#[]⟩, .slice none 0 0, .string ⟨#[]⟩, .slice none 0 0, .bool false, .bool false] 71 (0, 0))) := HP.out
        clear HB HP
        generalize wc.drew = W0 at hHeld HBd HPd ⊢
        clear c1 c2 c3
        refine pure_ (i := 0) (N := some 44) (v := ?_) (a' := ?_) #[true, false, false, false, false, false, false, false, false, false, false, false, false, false, false, false, false, false, false, false, false, false, false, false, false, false, false] rfl rfl (by kernel_rfl) (fun _ _ _ h => h) (Or.inl ⟨by rfl, ?_⟩) ?_ ?_
        rotate_left
        · intro w'
          go_simp
          with_reducible rfl
        rotate_left
        · go_simp
          rfl
        refine take_ (i := 1) (N := some 45) (v := ?_) (a' := ?_) #[true, true, false, false, false, false, false, false, false, false, false, false, false, false, false, false, false, false, false, false, false, false, false, false, false, false, false] rfl rfl (by kernel_rfl) (fun _ _ _ h => h) (Or.inl ⟨by rfl, ?_⟩) hHeld ?_ ?_
        rotate_left
        · rintro w' ⟨s0, s1, s2⟩
          go_simp
          with_reducible rfl
        rotate_left
        · go_simp
          rfl
        refine pure_ (i := 2) (N := some 46) (v := ?_) (a' := ?_) #[true, true, true, false, false, false, false, false, false, false, false, false, false, false, false, false, false, false, false, false, false, false, false, false, false, false, false] rfl rfl (by kernel_rfl) (fun _ _ _ h => h) (Or.inl ⟨by rfl, ?_⟩) ?_ ?_
        rotate_left
        · intro w'
          go_simp
          with_reducible rfl
        rotate_left
        · go_simp
          rfl
        refine pure_ (i := 3) (N := some 47) (v := ?_) (a' := ?_) #[true, true, true, true, false, false, false, false, false, false, false, false, false, false, false, false, false, false, false, false, false, false, false, false, false, false, false] rfl rfl (by kernel_rfl) (fun _ _ _ h => h) (Or.inl ⟨by rfl, ?_⟩) ?_ ?_
        rotate_left
        · intro w'
          go_simp
          with_reducible rfl
        rotate_left
        · go_simp
          rfl
        refine pure_ (i := 4) (N := some 48) (v := ?_) (a' := ?_) #[true, true, true, true, true, false, false, false, false, false, false, false, false, false, false, false, false, false, false, false, false, false, false, false, false, false, false] rfl rfl (by kernel_rfl) (fun _ _ _ h => h) (Or.inl ⟨by rfl, ?_⟩) ?_ ?_
        rotate_left
        · intro w'
          go_simp
          with_reducible rfl
        rotate_left
        · go_simp
          rfl
        refine pure_ (i := 5) (N := some 49) (v := undef) (a' := ?_) #[true, true, true, true, true, true, false, false, false, false, false, false, false, false, false, false, false, false, false, false, false, false, false, false, false, false, false] rfl rfl (by kernel_rfl) (fun _ _ _ h => h) (Or.inr ⟨by rfl, rfl⟩) ?_ ?_
        rotate_left
        · go_simp
          rfl
        refine pure_ (i := 6) (N := some 50) (v := undef) (a' := ?_) #[true, true, true, true, true, true, true, false, false, false, false, false, false, false, false, false, false, false, false, false, false, false, false, false, false, false, false] rfl rfl (by kernel_rfl) (fun _ _ _ h => h) (Or.inr ⟨by rfl, rfl⟩) ?_ ?_
        rotate_left
        · go_simp
          rfl
        refine pure_ (i := 7) (N := some 51) (v := undef) (a' := ?_) #[true, true, true, true, true, true, true, true, false, false, false, false, false, false, false, false, false, false, false, false, false, false, false, false, false, false, false] rfl rfl (by kernel_rfl) (fun _ _ _ h => h) (Or.inr ⟨by rfl, rfl⟩) ?_ ?_
        rotate_left
        · go_simp
          rfl
        refine pure_ (i := 8) (N := some 52) (v := undef) (a' := ?_) #[true, true, true, true, true, true, true, true, true, false, false, false, false, false, false, false, false, false, false, false, false, false, false, false, false, false, false] rfl rfl (by kernel_rfl) (fun _ _ _ h => h) (Or.inr ⟨by rfl, rfl⟩) ?_ ?_
        rotate_left
        · go_simp
          rfl
        refine pure_ (i := 9) (N := some 53) (v := undef) (a' := ?_) #[true, true, true, true, true, true, true, true, true, true, false, false, false, false, false, false, false, false, false, false, false, false, false, false, false, false, false] rfl rfl (by kernel_rfl) (fun _ _ _ h => h) (Or.inr ⟨by rfl, rfl⟩) ?_ ?_
        rotate_left
        · go_simp
          rfl
        refine pure_ (i := 10) (N := some 54) (v := undef) (a' := ?_) #[true, true, true, true, true, true, true, true, true, true, true, false, false, false, false, false, false, false, false, false, false, false, false, false, false, false, false] rfl rfl (by kernel_rfl) (fun _ _ _ h => h) (Or.inr ⟨by rfl, rfl⟩) ?_ ?_
        rotate_left
        · go_simp
          rfl
        refine pure_ (i := 11) (N := some 55) (v := undef) (a' := ?_) #[true, true, true, true, true, true, true, true, true, true, true, true, false, false, false, false, false, false, false, false, false, false, false, false, false, false, false] rfl rfl (by kernel_rfl) (fun _ _ _ h => h) (Or.inr ⟨by rfl, rfl⟩) ?_ ?_
        rotate_left
        · go_simp
          rfl
        refine pure_ (i := 12) (N := some 56) (v := undef) (a' := ?_) #[true, true, true, true, true, true, true, true, true, true, true, true, true, false, false, false, false, false, false, false, false, false, false, false, false, false, false] rfl rfl (by kernel_rfl) (fun _ _ _ h => h) (Or.inr ⟨by rfl, rfl⟩) ?_ ?_
        rotate_left
        · go_simp
          rfl
        refine pure_ (i := 13) (N := some 57) (v := undef) (a' := ?_) #[true, true, true, true, true, true, true, true, true, true, true, true, true, true, false, false, false, false, false, false, false, false, false, false, false, false, false] rfl rfl (by kernel_rfl) (fun _ _ _ h => h) (Or.inr ⟨by rfl, rfl⟩) ?_ ?_
        rotate_left
        · go_simp
          rfl
        refine pure_ (i := 14) (N := some 58) (v := undef) (a' := ?_) #[true, true, true, true, true, true, true, true, true, true, true, true, true, true, true, false, false, false, false, false, false, false, false, false, false, false, false] rfl rfl (by kernel_rfl) (fun _ _ _ h => h) (Or.inr ⟨by rfl, rfl⟩) ?_ ?_
        rotate_left
        · go_simp
          rfl
        refine pure_ (i := 15) (N := some 59) (v := undef) (a' := ?_) #[true, true, true, true, true, true, true, true, true, true, true, true, true, true, true, true, false, false, false, false, false, false, false, false, false, false, false] rfl rfl (by kernel_rfl) (fun _ _ _ h => h) (Or.inr ⟨by rfl, rfl⟩) ?_ ?_
        rotate_left
        · go_simp
          rfl
        refine pure_ (i := 16) (N := some 60) (v := undef) (a' := ?_) #[true, true, true, true, true, true, true, true, true, true, true, true, true, true, true, true, true, false, false, false, false, false, false, false, false, false, false] rfl rfl (by kernel_rfl) (fun _ _ _ h => h) (Or.inr ⟨by rfl, rfl⟩) ?_ ?_
        rotate_left
        · go_simp
          rfl
        refine pure_ (i := 17) (N := some 61) (v := undef) (a' := ?_) #[true, true, true, true, true, true, true, true, true, true, true, true, true, true, true, true, true, true, false, false, false, false, false, false, false, false, false] rfl rfl (by kernel_rfl) (fun _ _ _ h => h) (Or.inr ⟨by rfl, rfl⟩) ?_ ?_
        rotate_left
        · go_simp
          rfl
        refine pure_ (i := 18) (N := some 62) (v := undef) (a' := ?_) #[true, true, true, true, true, true, true, true, true, true, true, true, true, true, true, true, true, true, true, false, false, false, false, false, false, false, false] rfl rfl (by kernel_rfl) (fun _ _ _ h => h) (Or.inr ⟨by rfl, rfl⟩) ?_ ?_
        rotate_left
        · go_simp
          rfl
        refine pure_ (i := 19) (N := some 63) (v := undef) (a' := ?_) #[true, true, true, true, true, true, true, true, true, true, true, true, true, true, true, true, true, true, true, true, false, false, false, false, false, false, false] rfl rfl (by kernel_rfl) (fun _ _ _ h => h) (Or.inr ⟨by rfl, rfl⟩) ?_ ?_
        rotate_left
        · go_simp
          rfl
        refine pure_ (i := 20) (N := some 64) (v := undef) (a' := ?_) #[true, true, true, true, true, true, true, true, true, true, true, true, true, true, true, true, true, true, true, true, true, false, false, false, false, false, false] rfl rfl (by kernel_rfl) (fun _ _ _ h => h) (Or.inr ⟨by rfl, rfl⟩) ?_ ?_
        rotate_left
        · go_simp
          rfl
        refine pure_ (i := 21) (N := some 65) (v := undef) (a' := ?_) #[true, true, true, true, true, true, true, true, true, true, true, true, true, true, true, true, true, true, true, true, true, true, false, false, false, false, false] rfl rfl (by kernel_rfl) (fun _ _ _ h => h) (Or.inr ⟨by rfl, rfl⟩) ?_ ?_
        rotate_left
        · go_simp
          rfl
        refine pure_ (i := 22) (N := some 66) (v := undef) (a' := ?_) #[true, true, true, true, true, true, true, true, true, true, true, true, true, true, true, true, true, true, true, true, true, true, true, false, false, false, false] rfl rfl (by kernel_rfl) (fun _ _ _ h => h) (Or.inr ⟨by rfl, rfl⟩) ?_ ?_
        rotate_left
        · go_simp
          rfl
        refine pure_ (i := 23) (N := some 67) (v := undef) (a' := ?_) #[true, true, true, true, true, true, true, true, true, true, true, true, true, true, true, true, true, true, true, true, true, true, true, true, false, false, false] rfl rfl (by kernel_rfl) (fun _ _ _ h => h) (Or.inr ⟨by rfl, rfl⟩) ?_ ?_
        rotate_left
        · go_simp
          rfl
        refine pure_ (i := 24) (N := some 68) (v := ?_) (a' := ?_) #[true, true, true, true, true, true, true, true, true, true, true, true, true, true, true, true, true, true, true, true, true, true, true, true, true, false, false] rfl rfl (by kernel_rfl) (fun _ _ _ h => h) (Or.inl ⟨by rfl, ?_⟩) ?_ ?_
        rotate_left
        · intro w'
          go_simp
          with_reducible rfl
        rotate_left
        · go_simp
          rfl
        refine pure_ (i := 25) (N := some 69) (v := ?_) (a' := ?_) #[true, true, true, true, true, true, true, true, true, true, true, true, true, true, true, true, true, true, true, true, true, true, true, true, true, true, false] rfl rfl (by kernel_rfl) (fun _ _ _ h => h) (Or.inl ⟨by rfl, ?_⟩) ?_ ?_
        rotate_left
        · intro w'
          go_simp
          with_reducible rfl
        rotate_left
        · go_simp
          rfl
        refine last_ (i := 26) (N := none) #[true, true, true, true, true, true, true, true, true, true, true, true, true, true, true, true, true, true, true, true, true, true, true, true, true, true, true] rfl rfl (by kernel_rfl) (by decide) (fun K hK => ?_)
        have x4 : W0.cell? ⟨p, 5, none⟩ = some (.bool false) := blk_at HPd.out 5 rfl
        have z4 : W0.frozen? ⟨p, 5, none⟩ = false := blk_frozen HPd.out 5
        refine skip_ (w1 := W0.setCell ⟨p, 5, none⟩ (.bool true)) (by rfl) rfl (by go_simp; try rfl) ?_
        clear x4 z4
        refine hK.out _ _ ?_
        have HP : Hid ((W0.setCell ⟨p, 5, none⟩ (.bool true)).heap[p]? = some (.cells #[.string ⟨#[]⟩, .slice none 0 0, .string ⟨#[]⟩, .slice none 0 0, .bool false, .bool true] 71 (0, 0))) := blk_put HPd.out 5 _ rfl
        have HB : Hid (Below wr.heap.size wr (W0.setCell ⟨p, 5, none⟩ (.bool true))) := HBd.out.setCell (by rw [HPE.out]; exact Nat.le_refl _) _
        clear hK K HPd HBd hHeld
        generalize W0.setCell ⟨p, 5, none⟩ (.bool true) = wc at *
        refine done_ (by kernel_rfl) ?_
        have HKW : Hid (KpX n₀ X W wc) := HK.out.trans (KpX.of_below HB.out (Nat.le_trans HN0.out HK.out.size))
        have HW0 : Hid (Below w0.heap.size w0 wc) := HKW.out.below HBW.out HN1.out HX.out
        have c1 : wc.cell? ⟨b1, 0, none⟩ = some (.slice A n ca) := (HKW.out.boxed H1.out HL.out.1 HL.out.2.1).cell
        have c2 : wc.cell? ⟨b2, 0, none⟩ = some (.slice (some adf) m cb) := (HKW.out.boxed H2.out HL.out.2.2.1 HL.out.2.2.2.1).cell
        have c3 : wc.cell? ⟨b3, 0, none⟩ = some (.func (.func 36) #[] #[]) := (HKW.out.boxed H3.out HL.out.2.2.2.2.1 HL.out.2.2.2.2.2).cell
        have f0 := pw_cell_below HW0.out gf0
        have f1 := pw_cell_below HW0.out gf1
        clear HKW HW0
        have p0 : wc.cell? ⟨p, 0, none⟩ = some (.string ⟨#[]⟩) := blk_at HP.out 0 rfl
        have z0 : wc.frozen? ⟨p, 0, none⟩ = false := blk_frozen HP.out 0
        have p1 : wc.cell? ⟨p, 1, none⟩ = some (.slice none 0 0) := blk_at HP.out 1 rfl
        have z1 : wc.frozen? ⟨p, 1, none⟩ = false := blk_frozen HP.out 1
        have p2 : wc.cell? ⟨p, 2, none⟩ = some (.string ⟨#[]⟩) := blk_at HP.out 2 rfl
        have z2 : wc.frozen? ⟨p, 2, none⟩ = false := blk_frozen HP.out 2
        have p3 : wc.cell? ⟨p, 3, none⟩ = some (.slice none 0 0) := blk_at HP.out 3 rfl
        have z3 : wc.frozen? ⟨p, 3, none⟩ = false := blk_frozen HP.out 3
        have p4 : wc.cell? ⟨p, 4, none⟩ = some (.bool false) := blk_at HP.out 4 rfl
        have z4 : wc.frozen? ⟨p, 4, none⟩ = false := blk_frozen HP.out 4
        have p5 : wc.cell? ⟨p, 5, none⟩ = some (.bool true) := blk_at HP.out 5 rfl
        have z5 : wc.frozen? ⟨p, 5, none⟩ = false := blk_frozen HP.out 5
        go_upto_region 11 with (fail)
        clear c1 c2 c3 f0 f1 p0 z0 p1 z1 p2 z2 p3 z3 p4 z4 p5 z5
        have HP9 : Hid (((wc.setCell ⟨p, 2, none⟩ (.string y.f0)).setCell ⟨p, 3, none⟩ (.slice Af y.f1.length cf)).heap[p]? = some (.cells #[.string ⟨#[]⟩, .slice none 0 0, .string y.f0, .slice Af y.f1.length cf, .bool false, .bool true] 71 (0, 0))) := blk_put (blk_put (HP.out) 2 _ rfl) 3 _ rfl
        have HB9 : Hid (Below wr.heap.size wr ((wc.setCell ⟨p, 2, none⟩ (.string y.f0)).setCell ⟨p, 3, none⟩ (.slice Af y.f1.length cf))) := ((HB.out).setCell (by rw [HPE.out]; exact Nat.le_refl _) _).setCell (by rw [HPE.out]; exact Nat.le_refl _) _
        clear HP HB
        generalize ((wc.setCell ⟨p, 2, none⟩ (.string y.f0)).setCell ⟨p, 3, none⟩ (.slice Af y.f1.length cf)) = W9 at *
        have p0 : W9.cell? ⟨p, 0, none⟩ = some (.string ⟨#[]⟩) := blk_at HP9.out 0 rfl
        have p1 : W9.cell? ⟨p, 1, none⟩ = some (.slice none 0 0) := blk_at HP9.out 1 rfl
        have p2 : W9.cell? ⟨p, 2, none⟩ = some (.string y.f0) := blk_at HP9.out 2 rfl
        have p3 : W9.cell? ⟨p, 3, none⟩ = some (.slice Af y.f1.length cf) := blk_at HP9.out 3 rfl
        have p4 : W9.cell? ⟨p, 4, none⟩ = some (.bool false) := blk_at HP9.out 4 rfl
        have p5 : W9.cell? ⟨p, 5, none⟩ = some (.bool true) := blk_at HP9.out 5 rfl
        have HR9 : Hid (pre.map PVC.p ++ (⟨z63, y, false, true⟩ : MPC) :: mrgC (a.drop (n)) (b.drop (j + 1)) = mrgC a b) := Lib.hid (by
          rw [← HR.out, HDA.out, HDB.out, mrgC_r y _]
          )
        obtain ⟨fn, tmps, assign, body, hy', hR⟩ := HY.out pre (⟨⟨z63, y, false, true⟩, none, 0, Af, cf, (Nat.le_refl 0), (C_none87 w0), hlf, hCf⟩ : PVC w0) W9 (HJ.out _ _ _ none HJs.out (grown_of_below HB9.out none) (by simp)) ⟨_, HR9.out⟩
        have hy : (Instr.yield l #[.agg #[.string ⟨#[]⟩, .slice none 0 0, .string y.f0, .slice Af y.f1.length cf, .bool false, .bool true]]).run Try.prog W9 = .ok (.round l fn tmps assign body) W9 := hy'
        have HRD := Lib.hid hR
        clear hy' hR
        refine (wpIn_wide (n := n0 + 1)).1 ?_
        gi_wp2
        refine HRD.out.mono ?_
        rintro e W3 (⟨rfl, hJ3, hk3⟩ | ⟨rfl, hJx3⟩)
        · have HJ3 := Lib.hid hJ3
          have HK3 : Hid (KpX n₀ X W W3) := HK.out.trans ((KpX.of_below HB9.out (Nat.le_trans HN0.out HK.out.size)).trans hk3)
          clear hJ3 hk3 p0 p1 p2 p3 p4 p5 hy
          gi_wp2
          go_wp2_with (fail)
          go_roundw
          case rel => exact ⟨n, j + 1, pre ++ [(⟨⟨z63, y, false, true⟩, none, 0, Af, cf, (Nat.le_refl 0), (C_none87 w0), hlf, hCf⟩ : PVC w0)], by omega, by omega, by go_num, by go_num, by rw [List.map_append, List.append_assoc]; exact HR9, HJ3, HK3⟩
          case measure => simp [intOf]; omega
        · have HJ3 := Lib.hid hJx3
          clear hJx3 p0 p1 p2 p3 p4 p5 hy
          gi_wp2
          go_wp2_with (fail)
          refine bodyPost_ret (results_none rfl _ _ _) rfl ?_
          exact ⟨⟨_, rfl⟩, .inr ⟨pre ++ [(⟨⟨z63, y, false, true⟩, none, 0, Af, cf, (Nat.le_refl 0), (C_none87 w0), hlf, hCf⟩ : PVC w0)], ⟨_, by rw [List.map_append, List.append_assoc]; exact HR9.out⟩, HJ3.out⟩⟩
      · obtain rfl : m = j := by omega
        have HB : Hid (Below wr.heap.size wr wr) := Below.refl _ _
        have HKW : Hid (KpX n₀ X W wr) := HK.out.trans (KpX.of_below HB.out (Nat.le_trans HN0.out HK.out.size))
        have HW0 : Hid (Below w0.heap.size w0 wr) := HKW.out.below HBW.out HN1.out HX.out
        have c1 : wr.cell? ⟨b1, 0, none⟩ = some (.slice A n ca) := (HKW.out.boxed H1.out HL.out.1 HL.out.2.1).cell
        have c2 : wr.cell? ⟨b2, 0, none⟩ = some (.slice B m cb) := (HKW.out.boxed H2.out HL.out.2.2.1 HL.out.2.2.2.1).cell
        have c3 : wr.cell? ⟨b3, 0, none⟩ = some (.func (.func 36) #[] #[]) := (HKW.out.boxed H3.out HL.out.2.2.2.2.1 HL.out.2.2.2.2.2).cell
        clear HKW HW0
        have HD : Hid (pre.map PVC.p = mrgC a b) := Lib.hid (by
          rw [← HR.out, List.drop_eq_nil_of_le (by rw [Hn.out]; exact Nat.le_refl _), List.drop_eq_nil_of_le (by rw [Hm.out]; exact Nat.le_refl _), mrgC_nil, List.append_nil])
        go_wp2_with (fail)
        go_end0
        exact ⟨⟨_, rfl⟩, .inl ⟨pre, HD.out, HJs.out⟩⟩
end Go.Proofs.Ytpplnhefpcofoaa.PDeltaJoin
