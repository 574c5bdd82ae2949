/- eddysize: counting the parts of what is handed in. -/
import Derived.Test.YtpplnhefpcofoaaZVA
namespace Go.Proofs.Ytpplnhefpcofoaa.PDeltaJoin
open Go.RowKit Go.Proofs.YtpplnhefpcofoaaW.PrintWords Go.Proofs.YtpplnhefpcofoaaW.PrintLast
set_option linter.unusedVariables false
set_option linter.unusedSimpArgs false

/-- Of the blocks that stood, block g alone may have turned. -/
structure Only (g : Nat) (w w' : World) : Prop where
  os : w'.os = w.os
  tape : w'.tape = w.tape
  output : w'.output = w.output
  size : w.heap.size ≤ w'.heap.size
  block : ∀ k, k < w.heap.size → k ≠ g → w'.heap[k]? = w.heap[k]?
theorem Only.refl (g : Nat) (w : World) : Only g w w := ⟨rfl, rfl, rfl, Nat.le_refl _, fun _ _ _ => rfl⟩
theorem Only.trans {g : Nat} {a b c : World} (h : Only g a b) (k : Only g b c) : Only g a c :=
  ⟨k.os.trans h.os, k.tape.trans h.tape, k.output.trans h.output, Nat.le_trans h.size k.size, fun i hi hg => (k.block i (Nat.lt_of_lt_of_le hi h.size) hg).trans (h.block i hi hg)⟩
theorem Only.set {g : Nat} {a w : World} (h : Only g a w) (i : Nat) (u : Value) : Only g a (w.setCell ⟨g, i, none⟩ u) :=
  ⟨h.os, h.tape, h.output, by simpa [World.setCell] using h.size, fun k hk hg => (Below.heap_setCell _ _ _ _ hg).trans (h.block k hk hg)⟩
theorem Only.alloc {g : Nat} {a w : World} (h : Only g a w) (o : Obj) : Only g a (w.alloc o) :=
  ⟨h.os, h.tape, h.output, by have := h.size; simp; omega, fun k hk hg => (Below.heap_alloc _ _ _ (Nat.lt_of_lt_of_le hk h.size)).trans (h.block k hk hg)⟩
theorem Only.cell {g : Nat} {w w' : World} (h : Only g w w') {a : Addr} {v : Value} (hc : w.cell? a = some v) (hg : a.block ≠ g) : w'.cell? a = some v :=
  (World.cell?_of_block (h.block a.block (World.block_lt_of_cell? w a hc) hg)).trans hc
theorem Only.below {g : Nat} {w w' : World} (h : Only g w w') {B : Nat} (hB : B ≤ g) (hs : B ≤ w.heap.size) : Below B w w' := ⟨h.os, h.tape, h.output, h.size, fun k hk => h.block k (by omega) (by omega)⟩
def CntAt (w : World) (g : Nat) (a : Int) : Prop := w.heap[g]? = some (.cells #[.int .i64 a] 89 (0, 0))
/-- The counter has been told of n parts. -/
def CntPost (g : Nat) (a : Int) (n : Nat) (w w' : World) : Prop := ∃ b, CntAt w' g b ∧ Only g w w' ∧ -9223372036854775807 ≤ b ∧ b ≤ a ∧ (0 ≤ b → b = a - n)
theorem CntPost.then {g : Nat} {a : Int} {n : Nat} {w w' : World} (h : CntPost g a n w w') : ∃ b, CntAt w' g b ∧ Only g w w' ∧ -9223372036854775807 ≤ b ∧ b ≤ a ∧ (0 ≤ b → b = a - n) := h

def SomeBool (e : Ending) : Prop := ∃ b, e = .returned (.bool b)
theorem new29 (w : World) : Calls Try.prog 29 #[] w fun e w' => e = .returned (.pointer (some ⟨w.heap.size, 0, none⟩)) ∧ w.alloc (.cells #[.int .i64 10000] 89) = w' := by
  go_enter Try.func29, Try.ntmps29
  go_wp2
  go_ret
  exact ⟨rfl, rfl⟩
theorem ok_yes (g : Nat) (a : Int) (w : World) (h : CntAt w g a) (ha : 0 ≤ a) : Calls Try.prog 30 #[.pointer (some ⟨g, 0, none⟩)] w fun e w' => e = .returned (.bool true) ∧ w = w' := by
  have h0 : w.cell? ⟨g, 0, none⟩ = some (.int .i64 a) := blk_at h 0 rfl
  clear h
  go_enter Try.func30, Try.ntmps30
  go_wp2
  go_ret
  exact ⟨by simp [ha], rfl⟩
theorem ok_no (g : Nat) (a : Int) (w : World) (h : CntAt w g a) (ha : a < 0) : Calls Try.prog 30 #[.pointer (some ⟨g, 0, none⟩)] w fun e w' => e = .returned (.bool false) ∧ w = w' := by
  have h0 : w.cell? ⟨g, 0, none⟩ = some (.int .i64 a) := blk_at h 0 rfl
  clear h
  go_enter Try.func30, Try.ntmps30
  go_wp2
  go_ret
  exact ⟨by simp; omega, rfl⟩
theorem add47 (g : Nat) (a : Int) (n : Nat) (w : World) (h : CntAt w g a) (hn : n ≤ 9223372036854775807) (ha : -9223372036854775807 ≤ a) (ha2 : a ≤ 10000) :
    Calls Try.prog 47 #[.pointer (some ⟨g, 0, none⟩), .int .i64 n] w fun e w' => SomeBool e ∧ CntPost g a n w w' := by
  have h0 : w.cell? ⟨g, 0, none⟩ = some (.int .i64 a) := blk_at h 0 rfl
  have hf : w.frozen? ⟨g, 0, none⟩ = false := blk_frozen h 0
  have H := Lib.hid h
  clear h
  by_cases hp : 0 ≤ a
  · have hd : decide (0 ≤ a) = true := decide_eq_true hp
    go_enter Try.func47, Try.ntmps47
    go_wp2
    go_ret
    refine ⟨⟨_, rfl⟩, a - n, ?_, (Only.refl _ _).set _ _, by omega, by omega, fun _ => rfl⟩
    have := blk_put H.out 0 (.int .i64 (a - n)) rfl
    exact this
  · have hd : decide (0 ≤ a) = false := decide_eq_false hp
    go_enter Try.func47, Try.ntmps47
    go_wp2
    go_ret
    exact ⟨⟨_, rfl⟩, a, H.out, Only.refl _ _, ha, Int.le_refl _, fun h => by omega⟩

/-- The sum of the first places, one more. -/
theorem sum_take_succ {α : Type} (f : α → Nat) (l : List α) (z : α) (k : Nat) (h : k < l.length) : ((l.take (k + 1)).map f).sum = ((l.take k).map f).sum + f (l.getD k z) := by
  rw [take_getD l z k h, List.map_append, List.sum_append]
  simp
def Vals48 (l : List S87) : Prop := ∀ (w0 : World) (g : Nat) (a : Int) (A : Option Addr) (c : Nat) (w : World), CntAt w g a → Kd.C k87 w0 A l.length l → Below w0.heap.size w0 w → w0.heap.size ≤ g → -9223372036854775807 ≤ a → a ≤ 10000 →
    Calls Try.prog 48 #[.pointer (some ⟨g, 0, none⟩), .slice A l.length c] w fun e w' => e = .returned (.tuple #[]) ∧ CntPost g a (partsV l) w w'
set_option maxRecDepth 100000 in
set_option maxHeartbeats 4000000 in
theorem values48_step (N : Nat) (ih : ∀ l : List S87, SizeOf.sizeOf l ≤ N → Vals48 l) (l : List S87) (hN : SizeOf.sizeOf l ≤ N + 1) : Vals48 l := by
  intro w0 g a A c w hA hC hB hg ha1 ha2
  obtain ⟨n, hn⟩ : ∃ n, n = l.length := ⟨_, rfl⟩
  have Hn := Lib.hid hn
  have HC := Lib.hid hC
  have HB := Lib.hid hB
  have Hg := Lib.hid hg
  have IH := Lib.hid ih
  have HN := Lib.hid hN
  have Ha1 := Lib.hid ha1
  have Ha2 := Lib.hid ha2
  have hmax : n ≤ 9223372036854775807 := by rw [hn]; exact Kd.C_max hC
  have HADD := Lib.hid (add47 g a n w hA hmax ha1 ha2)
  rw [← hn]
  clear hC hB hg ih hN hn hA ha1 ha2
  go_enter Try.func48, Try.ntmps48
  go_wp2_with (go_at_call 47; refine HADD.out.mono ?_; rintro e w1 ⟨⟨bb, rfl⟩, b0, C0, O0, l0, u0, r0⟩)
  go_loopw [4] (fun v4 wr => ∃ k : Nat, k ≤ n ∧ v4 = .int .i64 k ∧ ∃ b, Hid (CntAt wr g b) ∧ Hid (Only g w wr) ∧ Hid (-9223372036854775807 ≤ b ∧ b ≤ a ∧ (0 ≤ b → b = a - (n + ((l.take k).map S87.parts).sum : Nat)))) (fun v4 _ => n - (intOf v4).toNat)
  case atStart =>
    exact ⟨0, Nat.zero_le _, rfl, b0, C0, O0, l0, u0, fun h => by have := r0 h; simp; omega⟩
  case round =>
    obtain ⟨k, hk, rfl, b, HA, HO, HR⟩ := hrel
    clear C0 O0 l0 u0 r0
    by_cases hlt : k < n
    · by_cases hb : 0 ≤ b
      · have HOK := Lib.hid (ok_yes g b wr HA.out hb)
        obtain ⟨ad, A3, cc, rfl, e0, e1, e2, e3, hl3, hC3⟩ := at_T87 HC.out (k : Int) (by omega) (by rw [← Hn.out]; omega)
        have hmem : rd_T87 l (k : Int) ∈ l := getD_mem _ _ _ (by rw [Int.toNat_natCast, ← Hn.out]; exact hlt)
        have hsum := sum_take_succ S87.parts l z87 k (by rw [← Hn.out]; exact hlt)
        have hrd : rd_T87 l (k : Int) = l.getD k z87 := by unfold rd_T87; rw [Int.toNat_natCast]
        rw [← hrd] at hsum
        clear hrd
        generalize rd_T87 l (k : Int) = y at *
        have HS := Lib.hid hsum
        have HBr : Hid (Below w0.heap.size w0 wr) := HB.out.trans (HO.out.below Hg.out HB.out.size)
        rw [Int.toNat_natCast] at e3
        have f3 := pw_cell_below HBr.out e3
        have HY := Lib.hid (IH.out y.f3 (by have := List.sizeOf_lt_of_mem hmem; have h2 := S87.size_mem (x := ⟨0, 0, ⟨#[]⟩, y.f3⟩) (y := y); have := HN.out; cases y; simp at *; omega) w0 g b A3 cc wr HA.out hC3 HBr.out Hg.out HR.out.1 (Int.le_trans HR.out.2.1 Ha2.out))
        have hb2 : 0 ≤ b := hb
        clear hmem hsum e0 e1 e2 e3 hC3 hl3 hb
        go_wp2_with (first
          | (go_at_call 30; refine HOK.out.mono ?_; rintro e w2 ⟨rfl, rfl⟩)
          | (go_at_call 48; refine HY.out.mono ?_; rintro e w2 ⟨rfl, b1, C1, O1, l1, u1, r1⟩
             have C1' := Lib.hid C1
             have O1' := Lib.hid O1
             have R1' := Lib.hid (And.intro l1 (And.intro u1 r1))
             clear C1 O1 l1 u1 r1))
        go_roundw
        case rel =>
          refine ⟨k + 1, by omega, by go_num, b1, C1'.out, HO.out.trans O1'.out, R1'.out.1, Int.le_trans R1'.out.2.1 HR.out.2.1, fun h => ?_⟩
          have h1 := R1'.out.2.2 h
          have h2 := HR.out.2.2 hb2
          rw [HS.out, h1, h2, S87.parts_eq]
          omega
        case measure => simp [intOf]; omega
      · have HOK := Lib.hid (ok_no g b wr HA.out (by omega))
        go_wp2_with (go_at_call 30; refine HOK.out.mono ?_; rintro e w2 ⟨rfl, rfl⟩)
        go_end0
        exact ⟨rfl, b, HA.out, HO.out, HR.out.1, HR.out.2.1, fun h => by omega⟩
    · go_wp2
      go_end0
      obtain rfl : k = n := by omega
      refine ⟨rfl, b, HA.out, HO.out, HR.out.1, HR.out.2.1, fun h => ?_⟩
      rw [HR.out.2.2 h, List.take_of_length_le (by rw [Hn.out]; exact Nat.le_refl _), partsV, ← Hn.out]
theorem values48_all : ∀ N : Nat, ∀ l : List S87, SizeOf.sizeOf l ≤ N → Vals48 l
  | 0 => fun l h => by cases l <;> simp at h
  | N + 1 => fun l h => values48_step N (values48_all N) l h
theorem values48 (l : List S87) : Vals48 l := values48_all _ l (Nat.le_refl _)

set_option maxRecDepth 100000 in
set_option maxHeartbeats 4000000 in
theorem cells31 (l : List S63) (w0 : World) (g : Nat) (a : Int) (A : Option Addr) (c : Nat) (w : World) (hA : CntAt w g a) (hC : Kd.C k63 w0 A l.length l) (hB : Below w0.heap.size w0 w) (hg : w0.heap.size ≤ g) (ha1 : -9223372036854775807 ≤ a) (ha2 : a ≤ 10000) :
    Calls Try.prog 31 #[.pointer (some ⟨g, 0, none⟩), .slice A l.length c] w fun e w' => e = .returned (.tuple #[]) ∧ CntPost g a (partsC l) w w' := by
  obtain ⟨n, hn⟩ : ∃ n, n = l.length := ⟨_, rfl⟩
  have Hn := Lib.hid hn
  have HC := Lib.hid hC
  have HB := Lib.hid hB
  have Hg := Lib.hid hg
  have Ha1 := Lib.hid ha1
  have Ha2 := Lib.hid ha2
  have hmax : n ≤ 9223372036854775807 := by rw [hn]; exact Kd.C_max hC
  have HADD := Lib.hid (add47 g a n w hA hmax ha1 ha2)
  rw [← hn]
  clear hC hB hg hn hA ha1 ha2
  go_enter Try.func31, Try.ntmps31
  go_wp2_with (go_at_call 47; refine HADD.out.mono ?_; rintro e w1 ⟨⟨bb, rfl⟩, b0, C0, O0, l0, u0, r0⟩)
  go_loopw [4] (fun v4 wr => ∃ k : Nat, k ≤ n ∧ v4 = .int .i64 k ∧ ∃ b, Hid (CntAt wr g b) ∧ Hid (Only g w wr) ∧ Hid (-9223372036854775807 ≤ b ∧ b ≤ a ∧ (0 ≤ b → b = a - (n + ((l.take k).map fun c => partsV c.f1).sum : Nat)))) (fun v4 _ => n - (intOf v4).toNat)
  case atStart =>
    exact ⟨0, Nat.zero_le _, rfl, b0, C0, O0, l0, u0, fun h => by have := r0 h; simp; omega⟩
  case round =>
    obtain ⟨k, hk, rfl, b, HA, HO, HR⟩ := hrel
    clear C0 O0 l0 u0 r0
    by_cases hlt : k < n
    · by_cases hb : 0 ≤ b
      · have HOK := Lib.hid (ok_yes g b wr HA.out hb)
        obtain ⟨ad, A1, c1, rfl, e0, e1, hl1, hC1⟩ := at_T63 HC.out (k : Int) (by omega) (by rw [← Hn.out]; omega)
        have hsum := sum_take_succ (fun c : S63 => partsV c.f1) l z63 k (by rw [← Hn.out]; exact hlt)
        have hrd : rd_T63 l (k : Int) = l.getD k z63 := by unfold rd_T63; rw [Int.toNat_natCast]
        rw [← hrd] at hsum
        clear hrd
        generalize rd_T63 l (k : Int) = y at *
        have HS := Lib.hid hsum
        have HBr : Hid (Below w0.heap.size w0 wr) := HB.out.trans (HO.out.below Hg.out HB.out.size)
        rw [Int.toNat_natCast] at e1
        have f3 := pw_cell_below HBr.out e1
        have HY := Lib.hid (values48 y.f1 w0 g b A1 c1 wr HA.out hC1 HBr.out Hg.out HR.out.1 (Int.le_trans HR.out.2.1 Ha2.out))
        have hb2 : 0 ≤ b := hb
        clear hsum e0 e1 hC1 hl1 hb
        go_wp2_with (first
          | (go_at_call 30; refine HOK.out.mono ?_; rintro e w2 ⟨rfl, rfl⟩)
          | (go_at_call 48; refine HY.out.mono ?_; rintro e w2 ⟨rfl, b1, C1, O1, l1, u1, r1⟩
             have C1' := Lib.hid C1
             have O1' := Lib.hid O1
             have R1' := Lib.hid (And.intro l1 (And.intro u1 r1))
             clear C1 O1 l1 u1 r1))
        go_roundw
        case rel =>
          refine ⟨k + 1, by omega, by go_num, b1, C1'.out, HO.out.trans O1'.out, R1'.out.1, Int.le_trans R1'.out.2.1 HR.out.2.1, fun h => ?_⟩
          have h1 := R1'.out.2.2 h
          have h2 := HR.out.2.2 hb2
          rw [HS.out, h1, h2]
          omega
        case measure => simp [intOf]; omega
      · have HOK := Lib.hid (ok_no g b wr HA.out (by omega))
        go_wp2_with (go_at_call 30; refine HOK.out.mono ?_; rintro e w2 ⟨rfl, rfl⟩)
        go_end0
        exact ⟨rfl, b, HA.out, HO.out, HR.out.1, HR.out.2.1, fun h => by omega⟩
    · go_wp2
      go_end0
      obtain rfl : k = n := by omega
      refine ⟨rfl, b, HA.out, HO.out, HR.out.1, HR.out.2.1, fun h => ?_⟩
      rw [HR.out.2.2 h, List.take_of_length_le (by rw [Hn.out]; exact Nat.le_refl _), partsC, ← Hn.out]
end Go.Proofs.Ytpplnhefpcofoaa.PDeltaJoin
