/- The iterator 'merged' over strings. -/
import Derived.Test.YtpplnhefpcofoaaZIC
import Derived.Test.YtpplnhefpcofoaaZIU
namespace Go.Proofs.Ytpplnhefpcofoaa.PDeltaJoin
open Go.RowKit Go.Proofs.YtpplnhefpcofoaaW.PrintWords Go.Proofs.YtpplnhefpcofoaaW.PrintLast
set_option linter.unusedVariables false
set_option linter.unusedSimpArgs false
/-- What stands at one key. -/
structure MPS where
  l : ByteArray
  r : ByteArray
  isL : Bool
  isR : Bool
/-- The two lists, key by key. -/
def mrgS : List ByteArray → List ByteArray → List MPS
  | [], [] => []
  | x :: a, [] => ⟨x, ⟨#[]⟩, true, false⟩ :: mrgS a []
  | [], y :: b => ⟨⟨#[]⟩, y, false, true⟩ :: mrgS [] b
  | x :: a, y :: b => if kle x y = true then (if kle y x = true then ⟨x, y, true, true⟩ :: mrgS a b else ⟨x, ⟨#[]⟩, true, false⟩ :: mrgS a (y :: b)) else ⟨⟨#[]⟩, y, false, true⟩ :: mrgS (x :: a) b
termination_by a b => a.length + b.length
theorem mrgS_l (x : ByteArray) (a : List ByteArray) : mrgS (x :: a) [] = ⟨x, ⟨#[]⟩, true, false⟩ :: mrgS a [] := by rw [mrgS]
theorem mrgS_r (y : ByteArray) (b : List ByteArray) : mrgS [] (y :: b) = ⟨⟨#[]⟩, y, false, true⟩ :: mrgS [] b := by rw [mrgS]
theorem mrgS_both (x y : ByteArray) (a b : List ByteArray) (h1 : kle x y = true) (h2 : kle y x = true) : mrgS (x :: a) (y :: b) = ⟨x, y, true, true⟩ :: mrgS a b := by rw [mrgS, if_pos h1, if_pos h2]
theorem mrgS_left (x y : ByteArray) (a b : List ByteArray) (h1 : kle x y = true) (h2 : kle y x = false) : mrgS (x :: a) (y :: b) = ⟨x, ⟨#[]⟩, true, false⟩ :: mrgS a (y :: b) := by rw [mrgS, if_pos h1, if_neg (by simp [h2])]
theorem mrgS_right (x y : ByteArray) (a b : List ByteArray) (h1 : kle x y = false) : mrgS (x :: a) (y :: b) = ⟨⟨#[]⟩, y, false, true⟩ :: mrgS (x :: a) b := by rw [mrgS, if_neg (by simp [h1])]
theorem mrgS_nil : mrgS [] [] = [] := by rw [mrgS]
structure PVS (w0 : World) where
  p : MPS
def encS {w0 : World} (x : PVS w0) : Array Value := #[.agg #[.string x.p.l, .string x.p.r, .bool x.p.isL, .bool x.p.isR]]
set_option maxRecDepth 100000 in
set_option maxHeartbeats 8000000 in
theorem key44 (x : ByteArray) (w : World) : Calls Try.prog 44 #[.string x] w fun e w' => e = .returned (.string x) ∧ Hid (Below w.heap.size w w') := by
  have HB : Hid (Below w.heap.size w w) := Below.refl _ _


  go_enter Try.func44, Try.ntmps44
  go_wp2_with (fail)
  go_ret
  exact ⟨rfl, HB⟩
/-- merged: the closure and its boxes. -/
def Made43 (A B : Option Addr) (n m ca cb : Nat) (w : World) (e : Ending) (w' : World) : Prop :=
  e = .returned (.func (.func 55) #[] #[.pointer (some ⟨w.heap.size, 0, none⟩), .pointer (some ⟨w.heap.size + 1, 0, none⟩), .pointer (some ⟨w.heap.size + 2, 0, none⟩)]) ∧
    Hid (Boxed w' w.heap.size 25 (.slice A n ca)) ∧ Hid (Boxed w' (w.heap.size + 1) 25 (.slice B m cb)) ∧ Hid (Boxed w' (w.heap.size + 2) 82 (.func (.func 44) #[] #[])) ∧ Hid (Below w.heap.size w w') ∧ w'.heap.size = w.heap.size + 3
set_option maxRecDepth 100000 in
set_option maxHeartbeats 8000000 in
theorem merged43 (A B : Option Addr) (n m ca cb : Nat) (w : World) : Calls Try.prog 43 #[.slice A n ca, .slice B m cb, .func (.func 44) #[] #[]] w fun e w' => Made43 A B n m ca cb w e w' := by
  go_enter Try.func43, Try.ntmps43
  go_wp2_with (fail)
  go_ret
  have b1 := ((Boxed.new w 25 (.slice A n ca)).alloc (.cells #[.slice B m cb] 25)).alloc (.cells #[.func (.func 44) #[] #[]] 82)
  have b2 := (Boxed.new (w.alloc (.cells #[.slice A n ca] 25)) 25 (.slice B m cb)).alloc (.cells #[.func (.func 44) #[] #[]] 82)
  have b3 := Boxed.new ((w.alloc (.cells #[.slice A n ca] 25)).alloc (.cells #[.slice B m cb] 25)) 82 (.func (.func 44) #[] #[])
  simp only [World.size_alloc] at b2 b3
  exact ⟨rfl, b1, b2, b3, (((Below.refl _ w).alloc (Nat.le_refl _) _).alloc (by simp) _).alloc (by simp; omega) _, by simp⟩
def IterS {w0 : World} (a b : List ByteArray) (J Jx : List (PVS w0) → World → Prop) (e : Ending) (W' : World) : Prop :=
  (∃ v, e = .returned v) ∧ ((∃ xs, xs.map PVS.p = mrgS a b ∧ J xs W') ∨ (∃ pre, (∃ rest, pre.map PVS.p ++ rest = mrgS a b) ∧ Jx pre W'))
set_option maxRecDepth 100000 in
set_option maxHeartbeats 8000000 in
theorem iter55 {w0 : World} (a b : List ByteArray) (A B : Option Addr) (ca cb : Nat) (hA : Kd.C Kd.string w0 A a.length a) (hB : Kd.C Kd.string w0 B b.length b) (W : World) (hW : Below w0.heap.size w0 W) (b1 b2 b3 n₀ l n : Nat) (X : Nat → Prop) (J Jx : List (PVS w0) → World → Prop) (hJ : AbidesFrom W.heap.size J)
    (h1 : Boxed W b1 25 (.slice A a.length ca)) (h2 : Boxed W b2 25 (.slice B b.length cb)) (h3 : Boxed W b3 82 (.func (.func 44) #[] #[])) (hl : b1 < n₀ ∧ ¬ X b1 ∧ b2 < n₀ ∧ ¬ X b2 ∧ b3 < n₀ ∧ ¬ X b3) (hn0 : n₀ ≤ W.heap.size) (hn1 : w0.heap.size ≤ n₀) (hX : ∀ k, X k → w0.heap.size ≤ k)
    (hY : ∀ pre x W1, J pre W1 → (∃ rest, pre.map PVS.p ++ x.p :: rest = mrgS a b) → YieldAt Fence.wide n Try.prog l (encS x) W1 fun e W' => (e = .returned (.bool true) ∧ J (pre ++ [x]) W' ∧ KpX n₀ X W1 W') ∨ (e = .returned (.bool false) ∧ Jx (pre ++ [x]) W')) (hJ0 : J [] W) :
    Calls Try.prog 55 #[.func (.yield l) #[] #[], .pointer (some ⟨b1, 0, none⟩), .pointer (some ⟨b2, 0, none⟩), .pointer (some ⟨b3, 0, none⟩)] W fun e W' => IterS a b J Jx e W' := by
  obtain ⟨n, hn⟩ : ∃ n, a.length = n := ⟨_, rfl⟩
  obtain ⟨m, hm⟩ : ∃ m, b.length = m := ⟨_, rfl⟩
  rename_i n0
  have Hn := Lib.hid hn
  have Hm := Lib.hid hm
  rw [hn] at hA h1
  rw [hm] at hB h2
  have HA := Lib.hid hA
  have HBB := Lib.hid hB
  have HBW := Lib.hid hW
  have HJ := Lib.hid hJ
  have H1 := Lib.hid h1
  have H2 := Lib.hid h2
  have H3 := Lib.hid h3
  have HL := Lib.hid hl
  have HN0 := Lib.hid hn0
  have HN1 := Lib.hid hn1
  have HX := Lib.hid hX
  have HY := Lib.hid hY
  have hnm : n ≤ 9223372036854775807 := Kd.C_max hA
  have hmm : m ≤ 9223372036854775807 := Kd.C_max hB
  clear hA hB hW hJ h1 h2 h3 hl hn0 hn1 hX hY hn hm
  go_enter Try.func55, Try.ntmps55
  go_wp2_with (fail)
  go_loopw [5, 6, 7] (fun v5 v6 v7 wr => ∃ (i j : Nat) (pre : List (PVS w0)), i ≤ n ∧ j ≤ m ∧ v5 = .int .i64 i ∧ v6 = .int .i64 j ∧ Hid (pre.map PVS.p ++ mrgS (a.drop i) (b.drop j) = mrgS a b) ∧ Hid (J pre wr) ∧ Hid (KpX n₀ X W wr)) (fun v5 v6 _ _ => (n - (intOf v5).toNat) + (m - (intOf v6).toNat))
  case atStart => exact ⟨0, 0, [], Nat.zero_le _, Nat.zero_le _, rfl, rfl, rfl, hJ0, KpX.refl _⟩
  case round =>
    clear hJ0
    obtain ⟨i, j, pre, hi, hj, rfl, rfl, HR, HJs, HK⟩ := hrel
    have i0 : (0 : Int) ≤ (i : Int) := by omega
    have j0 : (0 : Int) ≤ (j : Int) := by omega
    by_cases hin : i < n
    · by_cases hjm : j < m
      · obtain ⟨ade, hAe, ge0⟩ := at_str HA.out i (by omega)
        subst hAe
        have HDA : Hid (a.drop i = a.getD i ⟨#[]⟩ :: a.drop (i + 1)) := drop_getD_S _ _ (by rw [Hn.out]; omega)
        generalize a.getD i ⟨#[]⟩ = x at *
        obtain ⟨adf, hAf, gf0⟩ := at_str HBB.out j (by omega)
        subst hAf
        have HDB : Hid (b.drop j = b.getD j ⟨#[]⟩ :: b.drop (j + 1)) := drop_getD_S _ _ (by rw [Hm.out]; omega)
        generalize b.getD j ⟨#[]⟩ = y at *
        have i1 : (i : Int) < (n : Int) := by omega
        have j1 : (j : Int) < (m : Int) := by omega
        have j2 : ((j : Int) == (m : Int)) = false := by simp; omega
        have j3 : ((i : Int) == (n : Int)) = false := by simp; omega
        have HB : Hid (Below wr.heap.size wr wr) := Below.refl _ _
        have HKW : Hid (KpX n₀ X W wr) := HK.out.trans (KpX.of_below HB.out (Nat.le_trans HN0.out HK.out.size))
        have HW0 : Hid (Below w0.heap.size w0 wr) := HKW.out.below HBW.out HN1.out HX.out
        have c1 : wr.cell? ⟨b1, 0, none⟩ = some (.slice (some ade) n ca) := (HKW.out.boxed H1.out HL.out.1 HL.out.2.1).cell
        have c2 : wr.cell? ⟨b2, 0, none⟩ = some (.slice (some adf) m cb) := (HKW.out.boxed H2.out HL.out.2.2.1 HL.out.2.2.2.1).cell
        have c3 : wr.cell? ⟨b3, 0, none⟩ = some (.func (.func 44) #[] #[]) := (HKW.out.boxed H3.out HL.out.2.2.2.2.1 HL.out.2.2.2.2.2).cell
        have e0 := pw_cell_below HW0.out ge0
        have f0 := pw_cell_below HW0.out gf0
        clear HKW HW0
        clear HB
        have HXp : Hid ((wr.alloc (.cells #[.string ⟨#[]⟩, .string ⟨#[]⟩, .bool false, .bool false] 84)).heap[wr.heap.size]? = some (.cells #[.string ⟨#[]⟩, .string ⟨#[]⟩, .bool false, .bool false] 84 (0, 0))) := Lib.hid (blk_new wr _)
        have HB : Hid (Below wr.heap.size wr (wr.alloc (.cells #[.string ⟨#[]⟩, .string ⟨#[]⟩, .bool false, .bool false] 84))) := (Below.refl _ _).alloc (Nat.le_refl _) _
        go_upto_region 3 with (fail)
        clear c1 c2 c3 e0 f0
        generalize wr.alloc (.cells #[.string ⟨#[]⟩, .string ⟨#[]⟩, .bool false, .bool false] 84) = wc at *
        obtain ⟨p, hp⟩ : ∃ p, p = wr.heap.size := ⟨_, rfl⟩
        rw [← hp] at HXp ⊢
        have HP := HXp
        have HPE := Lib.hid hp
        clear HXp hp
        have HKW : Hid (KpX n₀ X W wc) := HK.out.trans (KpX.of_below HB.out (Nat.le_trans HN0.out HK.out.size))
        have HW0 : Hid (Below w0.heap.size w0 wc) := HKW.out.below HBW.out HN1.out HX.out
        have c1 : wc.cell? ⟨b1, 0, none⟩ = some (.slice (some ade) n ca) := (HKW.out.boxed H1.out HL.out.1 HL.out.2.1).cell
        have c2 : wc.cell? ⟨b2, 0, none⟩ = some (.slice (some adf) m cb) := (HKW.out.boxed H2.out HL.out.2.2.1 HL.out.2.2.2.1).cell
        have c3 : wc.cell? ⟨b3, 0, none⟩ = some (.func (.func 44) #[] #[]) := (HKW.out.boxed H3.out HL.out.2.2.2.2.1 HL.out.2.2.2.2.2).cell
        have e0 := pw_cell_below HW0.out ge0
        have f0 := pw_cell_below HW0.out gf0
        clear HKW HW0
        refine start_ (n := 27) (S := (fun w' => w'.cell? ⟨b1, 0, none⟩ = some (.slice (some ade) n ca) ∧ w'.cell? ⟨b2, 0, none⟩ = some (.slice (some adf) m cb) ∧ w'.cell? ⟨b3, 0, none⟩ = some (.func (.func 44) #[] #[]) ∧ w'.cell? (ade.add i) = some (.string x) ∧ w'.cell? (adf.add j) = some (.string y))) (ds := [26]) #[false, false, false, false, false, false, false, false, false, false, false, false, false, false, false, false, false, false, false, false, false, false, false, false, false, false, false] (by kernel_rfl) rfl rfl ⟨c1, c2, c3, e0, f0⟩ (fun hHeld => ?_)
        have HBd : Hid (Below wr.heap.size wr wc.drew) := HB.out.drew
        have HPd : Hid (wc.drew.heap[p]? = some (.cells #[.string ⟨#[]⟩, .string ⟨#[]⟩, .bool false, .bool false] 84 (0, 0))) := HP.out
        clear HB HP
        generalize wc.drew = W0 at hHeld HBd HPd ⊢
        clear c1 c2 c3 e0 f0
        refine pure_ (i := 0) (N := some 18) (v := ?_) (a' := ?_) #[true, false, false, false, false, false, false, false, false, false, false, false, false, false, false, false, false, false, false, false, false, false, false, false, false, false, false] rfl rfl (by kernel_rfl) (fun _ _ _ h => h) (Or.inl ⟨by rfl, ?_⟩) ?_ ?_
        rotate_left
        · intro w'
          go_simp
          with_reducible rfl
        rotate_left
        · go_simp
          rfl
        refine take_ (i := 1) (N := some 19) (v := ?_) (a' := ?_) #[true, true, false, false, false, false, false, false, false, false, false, false, false, false, false, false, false, false, false, false, false, false, false, false, false, false, false] rfl rfl (by kernel_rfl) (fun _ _ _ h => h) (Or.inl ⟨by rfl, ?_⟩) hHeld ?_ ?_
        rotate_left
        · rintro w' ⟨s0, s1, s2, s3, s4⟩
          go_simp
          with_reducible rfl
        rotate_left
        · go_simp
          rfl
        refine pure_ (i := 2) (N := some 20) (v := ?_) (a' := ?_) #[true, true, true, false, false, false, false, false, false, false, false, false, false, false, false, false, false, false, false, false, false, false, false, false, false, false, false] rfl rfl (by kernel_rfl) (fun _ _ _ h => h) (Or.inl ⟨by rfl, ?_⟩) ?_ ?_
        rotate_left
        · intro w'
          go_simp
          with_reducible rfl
        rotate_left
        · go_simp
          rfl
        refine pure_ (i := 3) (N := some 21) (v := ?_) (a' := ?_) #[true, true, true, true, false, false, false, false, false, false, false, false, false, false, false, false, false, false, false, false, false, false, false, false, false, false, false] rfl rfl (by kernel_rfl) (fun _ _ _ h => h) (Or.inl ⟨by rfl, ?_⟩) ?_ ?_
        rotate_left
        · intro w'
          go_simp
          with_reducible rfl
        rotate_left
        · go_simp
          rfl
        refine pure_ (i := 4) (N := some 22) (v := ?_) (a' := ?_) #[true, true, true, true, true, false, false, false, false, false, false, false, false, false, false, false, false, false, false, false, false, false, false, false, false, false, false] rfl rfl (by kernel_rfl) (fun _ _ _ h => h) (Or.inl ⟨by rfl, ?_⟩) ?_ ?_
        rotate_left
        · intro w'
          go_simp
          with_reducible rfl
        rotate_left
        · go_simp
          rfl
        refine pure_ (i := 5) (N := some 23) (v := ?_) (a' := ?_) #[true, true, true, true, true, true, false, false, false, false, false, false, false, false, false, false, false, false, false, false, false, false, false, false, false, false, false] rfl rfl (by kernel_rfl) (fun _ _ _ h => h) (Or.inl ⟨by rfl, ?_⟩) ?_ ?_
        rotate_left
        · intro w'
          go_simp
          with_reducible rfl
        rotate_left
        · go_simp
          rfl
        refine take_ (i := 6) (N := some 24) (v := ?_) (a' := ?_) #[true, true, true, true, true, true, true, false, false, false, false, false, false, false, false, false, false, false, false, false, false, false, false, false, false, false, false] rfl rfl (by kernel_rfl) (fun _ _ _ h => h) (Or.inl ⟨by rfl, ?_⟩) hHeld ?_ ?_
        rotate_left
        · rintro w' ⟨s0, s1, s2, s3, s4⟩
          go_simp
          with_reducible rfl
        rotate_left
        · go_simp
          rfl
        refine pure_ (i := 7) (N := some 25) (v := ?_) (a' := ?_) #[true, true, true, true, true, true, true, true, false, false, false, false, false, false, false, false, false, false, false, false, false, false, false, false, false, false, false] rfl rfl (by kernel_rfl) (fun _ _ _ h => h) (Or.inl ⟨by rfl, ?_⟩) ?_ ?_
        rotate_left
        · intro w'
          go_simp
          with_reducible rfl
        rotate_left
        · go_simp
          rfl
        refine pure_ (i := 8) (N := some 26) (v := ?_) (a' := ?_) #[true, true, true, true, true, true, true, true, true, false, false, false, false, false, false, false, false, false, false, false, false, false, false, false, false, false, false] rfl rfl (by kernel_rfl) (fun _ _ _ h => h) (Or.inl ⟨by rfl, ?_⟩) ?_ ?_
        rotate_left
        · intro w'
          go_simp
          with_reducible rfl
        rotate_left
        · go_simp
          rfl
        refine pure_ (i := 9) (N := some 27) (v := ?_) (a' := ?_) #[true, true, true, true, true, true, true, true, true, true, false, false, false, false, false, false, false, false, false, false, false, false, false, false, false, false, false] rfl rfl (by kernel_rfl) (fun _ _ _ h => h) (Or.inl ⟨by rfl, ?_⟩) ?_ ?_
        rotate_left
        · intro w'
          go_simp
          with_reducible rfl
        rotate_left
        · go_simp
          rfl
        refine take_ (i := 10) (N := some 28) (v := ?_) (a' := ?_) #[true, true, true, true, true, true, true, true, true, true, true, false, false, false, false, false, false, false, false, false, false, false, false, false, false, false, false] rfl rfl (by kernel_rfl) (fun _ _ _ h => h) (Or.inl ⟨by rfl, ?_⟩) hHeld ?_ ?_
        rotate_left
        · rintro w' ⟨s0, s1, s2, s3, s4⟩
          go_simp
          with_reducible rfl
        rotate_left
        · go_simp
          rfl
        refine take_ (i := 11) (N := some 29) (v := ?_) (a' := ?_) #[true, true, true, true, true, true, true, true, true, true, true, true, false, false, false, false, false, false, false, false, false, false, false, false, false, false, false] rfl rfl (by kernel_rfl) (fun _ _ _ h => h) (Or.inl ⟨by rfl, ?_⟩) hHeld ?_ ?_
        rotate_left
        · rintro w' ⟨s0, s1, s2, s3, s4⟩
          go_simp
          with_reducible rfl
        rotate_left
        · go_simp
          rfl
        refine pure_ (i := 12) (N := some 30) (v := ?_) (a' := ?_) #[true, true, true, true, true, true, true, true, true, true, true, true, true, false, false, false, false, false, false, false, false, false, false, false, false, false, false] rfl rfl (by kernel_rfl) (fun _ _ _ h => h) (Or.inl ⟨by rfl, ?_⟩) ?_ ?_
        rotate_left
        · intro w'
          go_simp
          with_reducible rfl
        rotate_left
        · go_simp
          rfl
        refine pure_ (i := 13) (N := some 31) (v := ?_) (a' := ?_) #[true, true, true, true, true, true, true, true, true, true, true, true, true, true, false, false, false, false, false, false, false, false, false, false, false, false, false] rfl rfl (by kernel_rfl) (fun _ _ _ h => h) (Or.inl ⟨by rfl, ?_⟩) ?_ ?_
        rotate_left
        · intro w'
          go_simp
          with_reducible rfl
        rotate_left
        · go_simp
          rfl
        refine take_ (i := 14) (N := some 32) (v := ?_) (a' := ?_) #[true, true, true, true, true, true, true, true, true, true, true, true, true, true, true, false, false, false, false, false, false, false, false, false, false, false, false] rfl rfl (by kernel_rfl) (fun _ _ _ h => h) (Or.inl ⟨by rfl, ?_⟩) hHeld ?_ ?_
        rotate_left
        · rintro w' ⟨s0, s1, s2, s3, s4⟩
          go_simp
          with_reducible rfl
        rotate_left
        · go_simp
          rfl
        refine take_ (i := 16) (N := some 34) (v := ?_) (a' := ?_) #[true, true, true, true, true, true, true, true, true, true, true, true, true, true, true, false, true, false, false, false, false, false, false, false, false, false, false] rfl rfl (by kernel_rfl) (fun _ _ _ h => h) (Or.inl ⟨by rfl, ?_⟩) hHeld ?_ ?_
        rotate_left
        · rintro w' ⟨s0, s1, s2, s3, s4⟩
          go_simp
          with_reducible rfl
        rotate_left
        · go_simp
          rfl
        refine take_ (i := 17) (N := some 35) (v := ?_) (a' := ?_) #[true, true, true, true, true, true, true, true, true, true, true, true, true, true, true, false, true, true, false, false, false, false, false, false, false, false, false] rfl rfl (by kernel_rfl) (fun _ _ _ h => h) (Or.inl ⟨by rfl, ?_⟩) hHeld ?_ ?_
        rotate_left
        · rintro w' ⟨s0, s1, s2, s3, s4⟩
          go_simp
          with_reducible rfl
        rotate_left
        · go_simp
          rfl
        refine pure_ (i := 18) (N := some 36) (v := ?_) (a' := ?_) #[true, true, true, true, true, true, true, true, true, true, true, true, true, true, true, false, true, true, true, false, false, false, false, false, false, false, false] rfl rfl (by kernel_rfl) (fun _ _ _ h => h) (Or.inl ⟨by rfl, ?_⟩) ?_ ?_
        rotate_left
        · intro w'
          go_simp
          with_reducible rfl
        rotate_left
        · go_simp
          rfl
        refine pure_ (i := 19) (N := some 37) (v := ?_) (a' := ?_) #[true, true, true, true, true, true, true, true, true, true, true, true, true, true, true, false, true, true, true, true, false, false, false, false, false, false, false] rfl rfl (by kernel_rfl) (fun _ _ _ h => h) (Or.inl ⟨by rfl, ?_⟩) ?_ ?_
        rotate_left
        · intro w'
          go_simp
          with_reducible rfl
        rotate_left
        · go_simp
          rfl
        refine take_ (i := 20) (N := some 38) (v := ?_) (a' := ?_) #[true, true, true, true, true, true, true, true, true, true, true, true, true, true, true, false, true, true, true, true, true, false, false, false, false, false, false] rfl rfl (by kernel_rfl) (fun _ _ _ h => h) (Or.inl ⟨by rfl, ?_⟩) hHeld ?_ ?_
        rotate_left
        · rintro w' ⟨s0, s1, s2, s3, s4⟩
          go_simp
          with_reducible rfl
        rotate_left
        · go_simp
          rfl
        refine one_ (i := 15) (N := some 33) #[true, true, true, true, true, true, true, true, true, true, true, true, true, true, true, true, true, true, true, true, true, false, false, false, false, false, false] rfl rfl (by kernel_rfl) (by decide) (fun K hK => ?_)
        refine goesV_ Try.func44 (by kernel_rfl) rfl #[.string x] (by rfl) rfl rfl (by rfl) (by simp only [List.map_toArray, List.map_cons, List.map_nil]; rfl) ?_
        refine (key44 x W0).mono ?_
        rintro e W1 ⟨rfl, hb⟩
        refine ⟨_, rfl, ?_⟩
        replace HPd : Hid (W1.heap[p]? = some (.cells #[.string ⟨#[]⟩, .string ⟨#[]⟩, .bool false, .bool false] 84 (0, 0))) := blk_below HPd.out hb.out
        replace HBd : Hid (Below wr.heap.size wr W1) := HBd.out.trans (hb.out.mono HBd.out.size)
        refine hK.out _ _ ⟨pw_cell_below hb.out hHeld.1, pw_cell_below hb.out hHeld.2.1, pw_cell_below hb.out hHeld.2.2.1, pw_cell_below hb.out hHeld.2.2.2.1, pw_cell_below hb.out hHeld.2.2.2.2⟩ (fun hHeld => ?_)
        clear hK K hb
        refine norm_ (a' := ?_) ?_ ?_
        rotate_left
        · show Act.put _ (some 33) _ = _
          go_simp
          rfl
        refine one_ (i := 21) (N := some 39) #[true, true, true, true, true, true, true, true, true, true, true, true, true, true, true, true, true, true, true, true, true, true, false, false, false, false, false] rfl rfl (by kernel_rfl) (by decide) (fun K hK => ?_)
        refine goesV_ Try.func44 (by kernel_rfl) rfl #[.string y] (by rfl) rfl rfl (by rfl) (by simp only [List.map_toArray, List.map_cons, List.map_nil]; rfl) ?_
        refine (key44 y W1).mono ?_
        rintro e W2 ⟨rfl, hb⟩
        refine ⟨_, rfl, ?_⟩
        replace HPd : Hid (W2.heap[p]? = some (.cells #[.string ⟨#[]⟩, .string ⟨#[]⟩, .bool false, .bool false] 84 (0, 0))) := blk_below HPd.out hb.out
        replace HBd : Hid (Below wr.heap.size wr W2) := HBd.out.trans (hb.out.mono HBd.out.size)
        refine hK.out _ _ ⟨pw_cell_below hb.out hHeld.1, pw_cell_below hb.out hHeld.2.1, pw_cell_below hb.out hHeld.2.2.1, pw_cell_below hb.out hHeld.2.2.2.1, pw_cell_below hb.out hHeld.2.2.2.2⟩ (fun hHeld => ?_)
        clear hK K hb
        refine norm_ (a' := ?_) ?_ ?_
        rotate_left
        · show Act.put _ (some 39) _ = _
          go_simp
          rfl
        refine pure_ (i := 22) (N := some 40) (v := ?_) (a' := ?_) #[true, true, true, true, true, true, true, true, true, true, true, true, true, true, true, true, true, true, true, true, true, true, true, false, false, false, false] rfl rfl (by kernel_rfl) (fun _ _ _ h => h) (Or.inl ⟨by rfl, ?_⟩) ?_ ?_
        rotate_left
        · intro w'
          go_simp
          with_reducible rfl
        rotate_left
        · go_simp
          rfl
        refine pure_ (i := 23) (N := some 41) (v := ?_) (a' := ?_) #[true, true, true, true, true, true, true, true, true, true, true, true, true, true, true, true, true, true, true, true, true, true, true, true, false, false, false] rfl rfl (by kernel_rfl) (fun _ _ _ h => h) (Or.inl ⟨by rfl, ?_⟩) ?_ ?_
        rotate_left
        · intro w'
          go_simp
          with_reducible rfl
        rotate_left
        · go_simp
          rfl
        refine pure_ (i := 24) (N := some 42) (v := ?_) (a' := ?_) #[true, true, true, true, true, true, true, true, true, true, true, true, true, true, true, true, true, true, true, true, true, true, true, true, true, false, false] rfl rfl (by kernel_rfl) (fun _ _ _ h => h) (Or.inl ⟨by rfl, ?_⟩) ?_ ?_
        rotate_left
        · intro w'
          go_simp
          with_reducible rfl
        rotate_left
        · go_simp
          rfl
        refine pure_ (i := 25) (N := some 43) (v := ?_) (a' := ?_) #[true, true, true, true, true, true, true, true, true, true, true, true, true, true, true, true, true, true, true, true, true, true, true, true, true, true, false] rfl rfl (by kernel_rfl) (fun _ _ _ h => h) (Or.inl ⟨by rfl, ?_⟩) ?_ ?_
        rotate_left
        · intro w'
          go_simp
          with_reducible rfl
        rotate_left
        · go_simp
          rfl
        refine last_ (i := 26) (N := none) #[true, true, true, true, true, true, true, true, true, true, true, true, true, true, true, true, true, true, true, true, true, true, true, true, true, true, true] rfl rfl (by kernel_rfl) (by decide) (fun K hK => ?_)
        have x4 : W2.cell? ⟨p, 2, none⟩ = some (.bool false) := blk_at HPd.out 2 rfl
        have z4 : W2.frozen? ⟨p, 2, none⟩ = false := blk_frozen HPd.out 2
        refine skip_ (w1 := W2.setCell ⟨p, 2, none⟩ (.bool (kle x y))) (by rfl) rfl (by go_simp; try rfl) ?_
        clear x4 z4
        refine hK.out _ _ ?_
        have HP : Hid ((W2.setCell ⟨p, 2, none⟩ (.bool (kle x y))).heap[p]? = some (.cells #[.string ⟨#[]⟩, .string ⟨#[]⟩, .bool (kle x y), .bool false] 84 (0, 0))) := blk_put HPd.out 2 _ rfl
        have HB : Hid (Below wr.heap.size wr (W2.setCell ⟨p, 2, none⟩ (.bool (kle x y)))) := HBd.out.setCell (by rw [HPE.out]; exact Nat.le_refl _) _
        clear hK K HPd HBd hHeld
        generalize W2.setCell ⟨p, 2, none⟩ (.bool (kle x y)) = wc at *
        refine done_ (by kernel_rfl) ?_
        go_upto_region 4 with (fail)
        have HKW : Hid (KpX n₀ X W wc) := HK.out.trans (KpX.of_below HB.out (Nat.le_trans HN0.out HK.out.size))
        have HW0 : Hid (Below w0.heap.size w0 wc) := HKW.out.below HBW.out HN1.out HX.out
        have c1 : wc.cell? ⟨b1, 0, none⟩ = some (.slice (some ade) n ca) := (HKW.out.boxed H1.out HL.out.1 HL.out.2.1).cell
        have c2 : wc.cell? ⟨b2, 0, none⟩ = some (.slice (some adf) m cb) := (HKW.out.boxed H2.out HL.out.2.2.1 HL.out.2.2.2.1).cell
        have c3 : wc.cell? ⟨b3, 0, none⟩ = some (.func (.func 44) #[] #[]) := (HKW.out.boxed H3.out HL.out.2.2.2.2.1 HL.out.2.2.2.2.2).cell
        have e0 := pw_cell_below HW0.out ge0
        have f0 := pw_cell_below HW0.out gf0
        clear HKW HW0
        refine start_ (n := 27) (S := (fun w' => w'.cell? ⟨b1, 0, none⟩ = some (.slice (some ade) n ca) ∧ w'.cell? ⟨b2, 0, none⟩ = some (.slice (some adf) m cb) ∧ w'.cell? ⟨b3, 0, none⟩ = some (.func (.func 44) #[] #[]) ∧ w'.cell? (ade.add i) = some (.string x) ∧ w'.cell? (adf.add j) = some (.string y))) (ds := [26]) #[false, false, false, false, false, false, false, false, false, false, false, false, false, false, false, false, false, false, false, false, false, false, false, false, false, false, false] (by kernel_rfl) rfl rfl ⟨c1, c2, c3, e0, f0⟩ (fun hHeld => ?_)
        have HBd : Hid (Below wr.heap.size wr wc.drew) := HB.out.drew
        have HPd : Hid (wc.drew.heap[p]? = some (.cells #[.string ⟨#[]⟩, .string ⟨#[]⟩, .bool (kle x y), .bool false] 84 (0, 0))) := HP.out
        clear HB HP
        generalize wc.drew = W0 at hHeld HBd HPd ⊢
        clear c1 c2 c3 e0 f0
        refine pure_ (i := 0) (N := some 44) (v := ?_) (a' := ?_) #[true, false, false, false, false, false, false, false, false, false, false, false, false, false, false, false, false, false, false, false, false, false, false, false, false, false, false] rfl rfl (by kernel_rfl) (fun _ _ _ h => h) (Or.inl ⟨by rfl, ?_⟩) ?_ ?_
        rotate_left
        · intro w'
          go_simp
          with_reducible rfl
        rotate_left
        · go_simp
          rfl
        refine take_ (i := 1) (N := some 45) (v := ?_) (a' := ?_) #[true, true, false, false, false, false, false, false, false, false, false, false, false, false, false, false, false, false, false, false, false, false, false, false, false, false, false] rfl rfl (by kernel_rfl) (fun _ _ _ h => h) (Or.inl ⟨by rfl, ?_⟩) hHeld ?_ ?_
        rotate_left
        · rintro w' ⟨s0, s1, s2, s3, s4⟩
          go_simp
          with_reducible rfl
        rotate_left
        · go_simp
          rfl
        refine pure_ (i := 2) (N := some 46) (v := ?_) (a' := ?_) #[true, true, true, false, false, false, false, false, false, false, false, false, false, false, false, false, false, false, false, false, false, false, false, false, false, false, false] rfl rfl (by kernel_rfl) (fun _ _ _ h => h) (Or.inl ⟨by rfl, ?_⟩) ?_ ?_
        rotate_left
        · intro w'
          go_simp
          with_reducible rfl
        rotate_left
        · go_simp
          rfl
        refine pure_ (i := 3) (N := some 47) (v := ?_) (a' := ?_) #[true, true, true, true, false, false, false, false, false, false, false, false, false, false, false, false, false, false, false, false, false, false, false, false, false, false, false] rfl rfl (by kernel_rfl) (fun _ _ _ h => h) (Or.inl ⟨by rfl, ?_⟩) ?_ ?_
        rotate_left
        · intro w'
          go_simp
          with_reducible rfl
        rotate_left
        · go_simp
          rfl
        refine pure_ (i := 4) (N := some 48) (v := ?_) (a' := ?_) #[true, true, true, true, true, false, false, false, false, false, false, false, false, false, false, false, false, false, false, false, false, false, false, false, false, false, false] rfl rfl (by kernel_rfl) (fun _ _ _ h => h) (Or.inl ⟨by rfl, ?_⟩) ?_ ?_
        rotate_left
        · intro w'
          go_simp
          with_reducible rfl
        rotate_left
        · go_simp
          rfl
        refine pure_ (i := 5) (N := some 49) (v := ?_) (a' := ?_) #[true, true, true, true, true, true, false, false, false, false, false, false, false, false, false, false, false, false, false, false, false, false, false, false, false, false, false] rfl rfl (by kernel_rfl) (fun _ _ _ h => h) (Or.inl ⟨by rfl, ?_⟩) ?_ ?_
        rotate_left
        · intro w'
          go_simp
          with_reducible rfl
        rotate_left
        · go_simp
          rfl
        refine take_ (i := 6) (N := some 50) (v := ?_) (a' := ?_) #[true, true, true, true, true, true, true, false, false, false, false, false, false, false, false, false, false, false, false, false, false, false, false, false, false, false, false] rfl rfl (by kernel_rfl) (fun _ _ _ h => h) (Or.inl ⟨by rfl, ?_⟩) hHeld ?_ ?_
        rotate_left
        · rintro w' ⟨s0, s1, s2, s3, s4⟩
          go_simp
          with_reducible rfl
        rotate_left
        · go_simp
          rfl
        refine pure_ (i := 7) (N := some 51) (v := ?_) (a' := ?_) #[true, true, true, true, true, true, true, true, false, false, false, false, false, false, false, false, false, false, false, false, false, false, false, false, false, false, false] rfl rfl (by kernel_rfl) (fun _ _ _ h => h) (Or.inl ⟨by rfl, ?_⟩) ?_ ?_
        rotate_left
        · intro w'
          go_simp
          with_reducible rfl
        rotate_left
        · go_simp
          rfl
        refine pure_ (i := 8) (N := some 52) (v := ?_) (a' := ?_) #[true, true, true, true, true, true, true, true, true, false, false, false, false, false, false, false, false, false, false, false, false, false, false, false, false, false, false] rfl rfl (by kernel_rfl) (fun _ _ _ h => h) (Or.inl ⟨by rfl, ?_⟩) ?_ ?_
        rotate_left
        · intro w'
          go_simp
          with_reducible rfl
        rotate_left
        · go_simp
          rfl
        refine pure_ (i := 9) (N := some 53) (v := ?_) (a' := ?_) #[true, true, true, true, true, true, true, true, true, true, false, false, false, false, false, false, false, false, false, false, false, false, false, false, false, false, false] rfl rfl (by kernel_rfl) (fun _ _ _ h => h) (Or.inl ⟨by rfl, ?_⟩) ?_ ?_
        rotate_left
        · intro w'
          go_simp
          with_reducible rfl
        rotate_left
        · go_simp
          rfl
        refine take_ (i := 10) (N := some 54) (v := ?_) (a' := ?_) #[true, true, true, true, true, true, true, true, true, true, true, false, false, false, false, false, false, false, false, false, false, false, false, false, false, false, false] rfl rfl (by kernel_rfl) (fun _ _ _ h => h) (Or.inl ⟨by rfl, ?_⟩) hHeld ?_ ?_
        rotate_left
        · rintro w' ⟨s0, s1, s2, s3, s4⟩
          go_simp
          with_reducible rfl
        rotate_left
        · go_simp
          rfl
        refine take_ (i := 11) (N := some 55) (v := ?_) (a' := ?_) #[true, true, true, true, true, true, true, true, true, true, true, true, false, false, false, false, false, false, false, false, false, false, false, false, false, false, false] rfl rfl (by kernel_rfl) (fun _ _ _ h => h) (Or.inl ⟨by rfl, ?_⟩) hHeld ?_ ?_
        rotate_left
        · rintro w' ⟨s0, s1, s2, s3, s4⟩
          go_simp
          with_reducible rfl
        rotate_left
        · go_simp
          rfl
        refine pure_ (i := 12) (N := some 56) (v := ?_) (a' := ?_) #[true, true, true, true, true, true, true, true, true, true, true, true, true, false, false, false, false, false, false, false, false, false, false, false, false, false, false] rfl rfl (by kernel_rfl) (fun _ _ _ h => h) (Or.inl ⟨by rfl, ?_⟩) ?_ ?_
        rotate_left
        · intro w'
          go_simp
          with_reducible rfl
        rotate_left
        · go_simp
          rfl
        refine pure_ (i := 13) (N := some 57) (v := ?_) (a' := ?_) #[true, true, true, true, true, true, true, true, true, true, true, true, true, true, false, false, false, false, false, false, false, false, false, false, false, false, false] rfl rfl (by kernel_rfl) (fun _ _ _ h => h) (Or.inl ⟨by rfl, ?_⟩) ?_ ?_
        rotate_left
        · intro w'
          go_simp
          with_reducible rfl
        rotate_left
        · go_simp
          rfl
        refine take_ (i := 14) (N := some 58) (v := ?_) (a' := ?_) #[true, true, true, true, true, true, true, true, true, true, true, true, true, true, true, false, false, false, false, false, false, false, false, false, false, false, false] rfl rfl (by kernel_rfl) (fun _ _ _ h => h) (Or.inl ⟨by rfl, ?_⟩) hHeld ?_ ?_
        rotate_left
        · rintro w' ⟨s0, s1, s2, s3, s4⟩
          go_simp
          with_reducible rfl
        rotate_left
        · go_simp
          rfl
        refine take_ (i := 16) (N := some 60) (v := ?_) (a' := ?_) #[true, true, true, true, true, true, true, true, true, true, true, true, true, true, true, false, true, false, false, false, false, false, false, false, false, false, false] rfl rfl (by kernel_rfl) (fun _ _ _ h => h) (Or.inl ⟨by rfl, ?_⟩) hHeld ?_ ?_
        rotate_left
        · rintro w' ⟨s0, s1, s2, s3, s4⟩
          go_simp
          with_reducible rfl
        rotate_left
        · go_simp
          rfl
        refine take_ (i := 17) (N := some 61) (v := ?_) (a' := ?_) #[true, true, true, true, true, true, true, true, true, true, true, true, true, true, true, false, true, true, false, false, false, false, false, false, false, false, false] rfl rfl (by kernel_rfl) (fun _ _ _ h => h) (Or.inl ⟨by rfl, ?_⟩) hHeld ?_ ?_
        rotate_left
        · rintro w' ⟨s0, s1, s2, s3, s4⟩
          go_simp
          with_reducible rfl
        rotate_left
        · go_simp
          rfl
        refine pure_ (i := 18) (N := some 62) (v := ?_) (a' := ?_) #[true, true, true, true, true, true, true, true, true, true, true, true, true, true, true, false, true, true, true, false, false, false, false, false, false, false, false] rfl rfl (by kernel_rfl) (fun _ _ _ h => h) (Or.inl ⟨by rfl, ?_⟩) ?_ ?_
        rotate_left
        · intro w'
          go_simp
          with_reducible rfl
        rotate_left
        · go_simp
          rfl
        refine pure_ (i := 19) (N := some 63) (v := ?_) (a' := ?_) #[true, true, true, true, true, true, true, true, true, true, true, true, true, true, true, false, true, true, true, true, false, false, false, false, false, false, false] rfl rfl (by kernel_rfl) (fun _ _ _ h => h) (Or.inl ⟨by rfl, ?_⟩) ?_ ?_
        rotate_left
        · intro w'
          go_simp
          with_reducible rfl
        rotate_left
        · go_simp
          rfl
        refine take_ (i := 20) (N := some 64) (v := ?_) (a' := ?_) #[true, true, true, true, true, true, true, true, true, true, true, true, true, true, true, false, true, true, true, true, true, false, false, false, false, false, false] rfl rfl (by kernel_rfl) (fun _ _ _ h => h) (Or.inl ⟨by rfl, ?_⟩) hHeld ?_ ?_
        rotate_left
        · rintro w' ⟨s0, s1, s2, s3, s4⟩
          go_simp
          with_reducible rfl
        rotate_left
        · go_simp
          rfl
        refine one_ (i := 15) (N := some 59) #[true, true, true, true, true, true, true, true, true, true, true, true, true, true, true, true, true, true, true, true, true, false, false, false, false, false, false] rfl rfl (by kernel_rfl) (by decide) (fun K hK => ?_)
        refine goesV_ Try.func44 (by kernel_rfl) rfl #[.string y] (by rfl) rfl rfl (by rfl) (by simp only [List.map_toArray, List.map_cons, List.map_nil]; rfl) ?_
        refine (key44 y W0).mono ?_
        rintro e W1 ⟨rfl, hb⟩
        refine ⟨_, rfl, ?_⟩
        replace HPd : Hid (W1.heap[p]? = some (.cells #[.string ⟨#[]⟩, .string ⟨#[]⟩, .bool (kle x y), .bool false] 84 (0, 0))) := blk_below HPd.out hb.out
        replace HBd : Hid (Below wr.heap.size wr W1) := HBd.out.trans (hb.out.mono HBd.out.size)
        refine hK.out _ _ ⟨pw_cell_below hb.out hHeld.1, pw_cell_below hb.out hHeld.2.1, pw_cell_below hb.out hHeld.2.2.1, pw_cell_below hb.out hHeld.2.2.2.1, pw_cell_below hb.out hHeld.2.2.2.2⟩ (fun hHeld => ?_)
        clear hK K hb
        refine norm_ (a' := ?_) ?_ ?_
        rotate_left
        · show Act.put _ (some 59) _ = _
          go_simp
          rfl
        refine one_ (i := 21) (N := some 65) #[true, true, true, true, true, true, true, true, true, true, true, true, true, true, true, true, true, true, true, true, true, true, false, false, false, false, false] rfl rfl (by kernel_rfl) (by decide) (fun K hK => ?_)
        refine goesV_ Try.func44 (by kernel_rfl) rfl #[.string x] (by rfl) rfl rfl (by rfl) (by simp only [List.map_toArray, List.map_cons, List.map_nil]; rfl) ?_
        refine (key44 x W1).mono ?_
        rintro e W2 ⟨rfl, hb⟩
        refine ⟨_, rfl, ?_⟩
        replace HPd : Hid (W2.heap[p]? = some (.cells #[.string ⟨#[]⟩, .string ⟨#[]⟩, .bool (kle x y), .bool false] 84 (0, 0))) := blk_below HPd.out hb.out
        replace HBd : Hid (Below wr.heap.size wr W2) := HBd.out.trans (hb.out.mono HBd.out.size)
        refine hK.out _ _ ⟨pw_cell_below hb.out hHeld.1, pw_cell_below hb.out hHeld.2.1, pw_cell_below hb.out hHeld.2.2.1, pw_cell_below hb.out hHeld.2.2.2.1, pw_cell_below hb.out hHeld.2.2.2.2⟩ (fun hHeld => ?_)
        clear hK K hb
        refine norm_ (a' := ?_) ?_ ?_
        rotate_left
        · show Act.put _ (some 65) _ = _
          go_simp
          rfl
        refine pure_ (i := 22) (N := some 66) (v := ?_) (a' := ?_) #[true, true, true, true, true, true, true, true, true, true, true, true, true, true, true, true, true, true, true, true, true, true, true, false, false, false, false] rfl rfl (by kernel_rfl) (fun _ _ _ h => h) (Or.inl ⟨by rfl, ?_⟩) ?_ ?_
        rotate_left
        · intro w'
          go_simp
          with_reducible rfl
        rotate_left
        · go_simp
          rfl
        refine pure_ (i := 23) (N := some 67) (v := ?_) (a' := ?_) #[true, true, true, true, true, true, true, true, true, true, true, true, true, true, true, true, true, true, true, true, true, true, true, true, false, false, false] rfl rfl (by kernel_rfl) (fun _ _ _ h => h) (Or.inl ⟨by rfl, ?_⟩) ?_ ?_
        rotate_left
        · intro w'
          go_simp
          with_reducible rfl
        rotate_left
        · go_simp
          rfl
        refine pure_ (i := 24) (N := some 68) (v := ?_) (a' := ?_) #[true, true, true, true, true, true, true, true, true, true, true, true, true, true, true, true, true, true, true, true, true, true, true, true, true, false, false] rfl rfl (by kernel_rfl) (fun _ _ _ h => h) (Or.inl ⟨by rfl, ?_⟩) ?_ ?_
        rotate_left
        · intro w'
          go_simp
          with_reducible rfl
        rotate_left
        · go_simp
          rfl
        refine pure_ (i := 25) (N := some 69) (v := ?_) (a' := ?_) #[true, true, true, true, true, true, true, true, true, true, true, true, true, true, true, true, true, true, true, true, true, true, true, true, true, true, false] rfl rfl (by kernel_rfl) (fun _ _ _ h => h) (Or.inl ⟨by rfl, ?_⟩) ?_ ?_
        rotate_left
        · intro w'
          go_simp
          with_reducible rfl
        rotate_left
        · go_simp
          rfl
        refine last_ (i := 26) (N := none) #[true, true, true, true, true, true, true, true, true, true, true, true, true, true, true, true, true, true, true, true, true, true, true, true, true, true, true] rfl rfl (by kernel_rfl) (by decide) (fun K hK => ?_)
        have x4 : W2.cell? ⟨p, 3, none⟩ = some (.bool false) := blk_at HPd.out 3 rfl
        have z4 : W2.frozen? ⟨p, 3, none⟩ = false := blk_frozen HPd.out 3
        refine skip_ (w1 := W2.setCell ⟨p, 3, none⟩ (.bool (kle y x))) (by rfl) rfl (by go_simp; try rfl) ?_
        clear x4 z4
        refine hK.out _ _ ?_
        have HP : Hid ((W2.setCell ⟨p, 3, none⟩ (.bool (kle y x))).heap[p]? = some (.cells #[.string ⟨#[]⟩, .string ⟨#[]⟩, .bool (kle x y), .bool (kle y x)] 84 (0, 0))) := blk_put HPd.out 3 _ rfl
        have HB : Hid (Below wr.heap.size wr (W2.setCell ⟨p, 3, none⟩ (.bool (kle y x)))) := HBd.out.setCell (by rw [HPE.out]; exact Nat.le_refl _) _
        clear hK K HPd HBd hHeld
        generalize W2.setCell ⟨p, 3, none⟩ (.bool (kle y x)) = wc at *
        refine done_ (by kernel_rfl) ?_
        cases hxy : kle x y with
        | false =>
          have hyx := kle_total hxy
          rw [hxy, hyx] at HP
          have HKW : Hid (KpX n₀ X W wc) := HK.out.trans (KpX.of_below HB.out (Nat.le_trans HN0.out HK.out.size))
          have HW0 : Hid (Below w0.heap.size w0 wc) := HKW.out.below HBW.out HN1.out HX.out
          have c1 : wc.cell? ⟨b1, 0, none⟩ = some (.slice (some ade) n ca) := (HKW.out.boxed H1.out HL.out.1 HL.out.2.1).cell
          have c2 : wc.cell? ⟨b2, 0, none⟩ = some (.slice (some adf) m cb) := (HKW.out.boxed H2.out HL.out.2.2.1 HL.out.2.2.2.1).cell
          have c3 : wc.cell? ⟨b3, 0, none⟩ = some (.func (.func 44) #[] #[]) := (HKW.out.boxed H3.out HL.out.2.2.2.2.1 HL.out.2.2.2.2.2).cell
          have e0 := pw_cell_below HW0.out ge0
          have f0 := pw_cell_below HW0.out gf0
          clear HKW HW0
          have p0 : wc.cell? ⟨p, 0, none⟩ = some (.string ⟨#[]⟩) := blk_at HP.out 0 rfl
          have z0 : wc.frozen? ⟨p, 0, none⟩ = false := blk_frozen HP.out 0
          have p1 : wc.cell? ⟨p, 1, none⟩ = some (.string ⟨#[]⟩) := blk_at HP.out 1 rfl
          have z1 : wc.frozen? ⟨p, 1, none⟩ = false := blk_frozen HP.out 1
          have p2 : wc.cell? ⟨p, 2, none⟩ = some (.bool false) := blk_at HP.out 2 rfl
          have z2 : wc.frozen? ⟨p, 2, none⟩ = false := blk_frozen HP.out 2
          have p3 : wc.cell? ⟨p, 3, none⟩ = some (.bool true) := blk_at HP.out 3 rfl
          have z3 : wc.frozen? ⟨p, 3, none⟩ = false := blk_frozen HP.out 3
          go_upto_region 11 with (fail)
          clear c1 c2 c3 e0 f0 p0 z0 p1 z1 p2 z2 p3 z3
          have HP9 : Hid ((wc.setCell ⟨p, 1, none⟩ (.string y)).heap[p]? = some (.cells #[.string ⟨#[]⟩, .string y, .bool false, .bool true] 84 (0, 0))) := blk_put (HP.out) 1 _ rfl
          have HB9 : Hid (Below wr.heap.size wr (wc.setCell ⟨p, 1, none⟩ (.string y))) := (HB.out).setCell (by rw [HPE.out]; exact Nat.le_refl _) _
          clear HP HB
          generalize (wc.setCell ⟨p, 1, none⟩ (.string y)) = W9 at *
          have p0 : W9.cell? ⟨p, 0, none⟩ = some (.string ⟨#[]⟩) := blk_at HP9.out 0 rfl
          have p1 : W9.cell? ⟨p, 1, none⟩ = some (.string y) := blk_at HP9.out 1 rfl
          have p2 : W9.cell? ⟨p, 2, none⟩ = some (.bool false) := blk_at HP9.out 2 rfl
          have p3 : W9.cell? ⟨p, 3, none⟩ = some (.bool true) := blk_at HP9.out 3 rfl
          have HR9 : Hid (pre.map PVS.p ++ (⟨⟨#[]⟩, y, false, true⟩ : MPS) :: mrgS (a.drop (i)) (b.drop (j + 1)) = mrgS a b) := Lib.hid (by
            rw [← HR.out, HDA.out, HDB.out, mrgS_right x y _ _ hxy]
            )
          obtain ⟨fn, tmps, assign, body, hy', hR⟩ := HY.out pre (⟨⟨⟨#[]⟩, y, false, true⟩⟩ : PVS w0) W9 (HJ.out _ _ _ none HJs.out (grown_of_below HB9.out none) (by simp)) ⟨_, HR9.out⟩
          have hy : (Instr.yield l #[.agg #[.string ⟨#[]⟩, .string y, .bool false, .bool true]]).run Try.prog W9 = .ok (.round l fn tmps assign body) W9 := hy'
          have HRD := Lib.hid hR
          clear hy' hR
          refine (wpIn_wide (n := n0 + 1)).1 ?_
          gi_wp2
          refine HRD.out.mono ?_
          rintro e W3 (⟨rfl, hJ3, hk3⟩ | ⟨rfl, hJx3⟩)
          · have HJ3 := Lib.hid hJ3
            have HK3 : Hid (KpX n₀ X W W3) := HK.out.trans ((KpX.of_below HB9.out (Nat.le_trans HN0.out HK.out.size)).trans hk3)
            clear hJ3 hk3 p0 p1 p2 p3 hy
            gi_wp2
            go_wp2_with (fail)
            go_roundw
            case rel => exact ⟨i, j + 1, pre ++ [(⟨⟨⟨#[]⟩, y, false, true⟩⟩ : PVS w0)], by omega, by omega, by go_num, by go_num, by rw [List.map_append, List.append_assoc]; exact HR9, HJ3, HK3⟩
            case measure => simp [intOf]; omega
          · have HJ3 := Lib.hid hJx3
            clear hJx3 p0 p1 p2 p3 hy
            gi_wp2
            go_wp2_with (fail)
            refine bodyPost_ret (results_none rfl _ _ _) rfl ?_
            exact ⟨⟨_, rfl⟩, .inr ⟨pre ++ [(⟨⟨⟨#[]⟩, y, false, true⟩⟩ : PVS w0)], ⟨_, by rw [List.map_append, List.append_assoc]; exact HR9.out⟩, HJ3.out⟩⟩
        | true =>
          cases hyx : kle y x with
          | false =>
            rw [hxy, hyx] at HP
            have HKW : Hid (KpX n₀ X W wc) := HK.out.trans (KpX.of_below HB.out (Nat.le_trans HN0.out HK.out.size))
            have HW0 : Hid (Below w0.heap.size w0 wc) := HKW.out.below HBW.out HN1.out HX.out
            have c1 : wc.cell? ⟨b1, 0, none⟩ = some (.slice (some ade) n ca) := (HKW.out.boxed H1.out HL.out.1 HL.out.2.1).cell
            have c2 : wc.cell? ⟨b2, 0, none⟩ = some (.slice (some adf) m cb) := (HKW.out.boxed H2.out HL.out.2.2.1 HL.out.2.2.2.1).cell
            have c3 : wc.cell? ⟨b3, 0, none⟩ = some (.func (.func 44) #[] #[]) := (HKW.out.boxed H3.out HL.out.2.2.2.2.1 HL.out.2.2.2.2.2).cell
            have e0 := pw_cell_below HW0.out ge0
            have f0 := pw_cell_below HW0.out gf0
            clear HKW HW0
            have p0 : wc.cell? ⟨p, 0, none⟩ = some (.string ⟨#[]⟩) := blk_at HP.out 0 rfl
            have z0 : wc.frozen? ⟨p, 0, none⟩ = false := blk_frozen HP.out 0
            have p1 : wc.cell? ⟨p, 1, none⟩ = some (.string ⟨#[]⟩) := blk_at HP.out 1 rfl
            have z1 : wc.frozen? ⟨p, 1, none⟩ = false := blk_frozen HP.out 1
            have p2 : wc.cell? ⟨p, 2, none⟩ = some (.bool true) := blk_at HP.out 2 rfl
            have z2 : wc.frozen? ⟨p, 2, none⟩ = false := blk_frozen HP.out 2
            have p3 : wc.cell? ⟨p, 3, none⟩ = some (.bool false) := blk_at HP.out 3 rfl
            have z3 : wc.frozen? ⟨p, 3, none⟩ = false := blk_frozen HP.out 3
            go_upto_region 11 with (fail)
            clear c1 c2 c3 e0 f0 p0 z0 p1 z1 p2 z2 p3 z3
            have HP9 : Hid ((wc.setCell ⟨p, 0, none⟩ (.string x)).heap[p]? = some (.cells #[.string x, .string ⟨#[]⟩, .bool true, .bool false] 84 (0, 0))) := blk_put (HP.out) 0 _ rfl
            have HB9 : Hid (Below wr.heap.size wr (wc.setCell ⟨p, 0, none⟩ (.string x))) := (HB.out).setCell (by rw [HPE.out]; exact Nat.le_refl _) _
            clear HP HB
            generalize (wc.setCell ⟨p, 0, none⟩ (.string x)) = W9 at *
            have p0 : W9.cell? ⟨p, 0, none⟩ = some (.string x) := blk_at HP9.out 0 rfl
            have p1 : W9.cell? ⟨p, 1, none⟩ = some (.string ⟨#[]⟩) := blk_at HP9.out 1 rfl
            have p2 : W9.cell? ⟨p, 2, none⟩ = some (.bool true) := blk_at HP9.out 2 rfl
            have p3 : W9.cell? ⟨p, 3, none⟩ = some (.bool false) := blk_at HP9.out 3 rfl
            have HR9 : Hid (pre.map PVS.p ++ (⟨x, ⟨#[]⟩, true, false⟩ : MPS) :: mrgS (a.drop (i + 1)) (b.drop (j)) = mrgS a b) := Lib.hid (by
              rw [← HR.out, HDA.out, HDB.out, mrgS_left x y _ _ hxy hyx]
              )
            obtain ⟨fn, tmps, assign, body, hy', hR⟩ := HY.out pre (⟨⟨x, ⟨#[]⟩, true, false⟩⟩ : PVS w0) W9 (HJ.out _ _ _ none HJs.out (grown_of_below HB9.out none) (by simp)) ⟨_, HR9.out⟩
            have hy : (Instr.yield l #[.agg #[.string x, .string ⟨#[]⟩, .bool true, .bool false]]).run Try.prog W9 = .ok (.round l fn tmps assign body) W9 := hy'
            have HRD := Lib.hid hR
            clear hy' hR
            refine (wpIn_wide (n := n0 + 1)).1 ?_
            gi_wp2
            refine HRD.out.mono ?_
            rintro e W3 (⟨rfl, hJ3, hk3⟩ | ⟨rfl, hJx3⟩)
            · have HJ3 := Lib.hid hJ3
              have HK3 : Hid (KpX n₀ X W W3) := HK.out.trans ((KpX.of_below HB9.out (Nat.le_trans HN0.out HK.out.size)).trans hk3)
              clear hJ3 hk3 p0 p1 p2 p3 hy
              gi_wp2
              go_wp2_with (fail)
              go_roundw
              case rel => exact ⟨i + 1, j, pre ++ [(⟨⟨x, ⟨#[]⟩, true, false⟩⟩ : PVS w0)], by omega, by omega, by go_num, by go_num, by rw [List.map_append, List.append_assoc]; exact HR9, HJ3, HK3⟩
              case measure => simp [intOf]; omega
            · have HJ3 := Lib.hid hJx3
              clear hJx3 p0 p1 p2 p3 hy
              gi_wp2
              go_wp2_with (fail)
              refine bodyPost_ret (results_none rfl _ _ _) rfl ?_
              exact ⟨⟨_, rfl⟩, .inr ⟨pre ++ [(⟨⟨x, ⟨#[]⟩, true, false⟩⟩ : PVS w0)], ⟨_, by rw [List.map_append, List.append_assoc]; exact HR9.out⟩, HJ3.out⟩⟩
          | true =>
            rw [hxy, hyx] at HP
            have HKW : Hid (KpX n₀ X W wc) := HK.out.trans (KpX.of_below HB.out (Nat.le_trans HN0.out HK.out.size))
            have HW0 : Hid (Below w0.heap.size w0 wc) := HKW.out.below HBW.out HN1.out HX.out
            have c1 : wc.cell? ⟨b1, 0, none⟩ = some (.slice (some ade) n ca) := (HKW.out.boxed H1.out HL.out.1 HL.out.2.1).cell
            have c2 : wc.cell? ⟨b2, 0, none⟩ = some (.slice (some adf) m cb) := (HKW.out.boxed H2.out HL.out.2.2.1 HL.out.2.2.2.1).cell
            have c3 : wc.cell? ⟨b3, 0, none⟩ = some (.func (.func 44) #[] #[]) := (HKW.out.boxed H3.out HL.out.2.2.2.2.1 HL.out.2.2.2.2.2).cell
            have e0 := pw_cell_below HW0.out ge0
            have f0 := pw_cell_below HW0.out gf0
            clear HKW HW0
            have p0 : wc.cell? ⟨p, 0, none⟩ = some (.string ⟨#[]⟩) := blk_at HP.out 0 rfl
            have z0 : wc.frozen? ⟨p, 0, none⟩ = false := blk_frozen HP.out 0
            have p1 : wc.cell? ⟨p, 1, none⟩ = some (.string ⟨#[]⟩) := blk_at HP.out 1 rfl
            have z1 : wc.frozen? ⟨p, 1, none⟩ = false := blk_frozen HP.out 1
            have p2 : wc.cell? ⟨p, 2, none⟩ = some (.bool true) := blk_at HP.out 2 rfl
            have z2 : wc.frozen? ⟨p, 2, none⟩ = false := blk_frozen HP.out 2
            have p3 : wc.cell? ⟨p, 3, none⟩ = some (.bool true) := blk_at HP.out 3 rfl
            have z3 : wc.frozen? ⟨p, 3, none⟩ = false := blk_frozen HP.out 3
            go_upto_region 8 with (fail)
            clear c1 c2 c3 e0 f0 p0 z0 p1 z1 p2 z2 p3 z3
            have HP8 : Hid ((wc.setCell ⟨p, 0, none⟩ (.string x)).heap[p]? = some (.cells #[.string x, .string ⟨#[]⟩, .bool true, .bool true] 84 (0, 0))) := blk_put (HP.out) 0 _ rfl
            have HB8 : Hid (Below wr.heap.size wr (wc.setCell ⟨p, 0, none⟩ (.string x))) := (HB.out).setCell (by rw [HPE.out]; exact Nat.le_refl _) _
            clear HP HB
            generalize (wc.setCell ⟨p, 0, none⟩ (.string x)) = wc at *
            have HP := HP8
            have HB := HB8
            clear HP8 HB8
            have HKW : Hid (KpX n₀ X W wc) := HK.out.trans (KpX.of_below HB.out (Nat.le_trans HN0.out HK.out.size))
            have HW0 : Hid (Below w0.heap.size w0 wc) := HKW.out.below HBW.out HN1.out HX.out
            have c1 : wc.cell? ⟨b1, 0, none⟩ = some (.slice (some ade) n ca) := (HKW.out.boxed H1.out HL.out.1 HL.out.2.1).cell
            have c2 : wc.cell? ⟨b2, 0, none⟩ = some (.slice (some adf) m cb) := (HKW.out.boxed H2.out HL.out.2.2.1 HL.out.2.2.2.1).cell
            have c3 : wc.cell? ⟨b3, 0, none⟩ = some (.func (.func 44) #[] #[]) := (HKW.out.boxed H3.out HL.out.2.2.2.2.1 HL.out.2.2.2.2.2).cell
            have e0 := pw_cell_below HW0.out ge0
            have f0 := pw_cell_below HW0.out gf0
            clear HKW HW0
            have p0 : wc.cell? ⟨p, 0, none⟩ = some (.string x) := blk_at HP.out 0 rfl
            have z0 : wc.frozen? ⟨p, 0, none⟩ = false := blk_frozen HP.out 0
            have p1 : wc.cell? ⟨p, 1, none⟩ = some (.string ⟨#[]⟩) := blk_at HP.out 1 rfl
            have z1 : wc.frozen? ⟨p, 1, none⟩ = false := blk_frozen HP.out 1
            have p2 : wc.cell? ⟨p, 2, none⟩ = some (.bool true) := blk_at HP.out 2 rfl
            have z2 : wc.frozen? ⟨p, 2, none⟩ = false := blk_frozen HP.out 2
            have p3 : wc.cell? ⟨p, 3, none⟩ = some (.bool true) := blk_at HP.out 3 rfl
            have z3 : wc.frozen? ⟨p, 3, none⟩ = false := blk_frozen HP.out 3
            go_upto_region 11 with (fail)
            clear c1 c2 c3 e0 f0 p0 z0 p1 z1 p2 z2 p3 z3
            have HP9 : Hid ((wc.setCell ⟨p, 1, none⟩ (.string y)).heap[p]? = some (.cells #[.string x, .string y, .bool true, .bool true] 84 (0, 0))) := blk_put (HP.out) 1 _ rfl
            have HB9 : Hid (Below wr.heap.size wr (wc.setCell ⟨p, 1, none⟩ (.string y))) := (HB.out).setCell (by rw [HPE.out]; exact Nat.le_refl _) _
            clear HP HB
            generalize (wc.setCell ⟨p, 1, none⟩ (.string y)) = W9 at *
            have p0 : W9.cell? ⟨p, 0, none⟩ = some (.string x) := blk_at HP9.out 0 rfl
            have p1 : W9.cell? ⟨p, 1, none⟩ = some (.string y) := blk_at HP9.out 1 rfl
            have p2 : W9.cell? ⟨p, 2, none⟩ = some (.bool true) := blk_at HP9.out 2 rfl
            have p3 : W9.cell? ⟨p, 3, none⟩ = some (.bool true) := blk_at HP9.out 3 rfl
            have HR9 : Hid (pre.map PVS.p ++ (⟨x, y, true, true⟩ : MPS) :: mrgS (a.drop (i + 1)) (b.drop (j + 1)) = mrgS a b) := Lib.hid (by
              rw [← HR.out, HDA.out, HDB.out, mrgS_both x y _ _ hxy hyx]
              )
            obtain ⟨fn, tmps, assign, body, hy', hR⟩ := HY.out pre (⟨⟨x, y, true, true⟩⟩ : PVS w0) W9 (HJ.out _ _ _ none HJs.out (grown_of_below HB9.out none) (by simp)) ⟨_, HR9.out⟩
            have hy : (Instr.yield l #[.agg #[.string x, .string y, .bool true, .bool true]]).run Try.prog W9 = .ok (.round l fn tmps assign body) W9 := hy'
            have HRD := Lib.hid hR
            clear hy' hR
            refine (wpIn_wide (n := n0 + 1)).1 ?_
            gi_wp2
            refine HRD.out.mono ?_
            rintro e W3 (⟨rfl, hJ3, hk3⟩ | ⟨rfl, hJx3⟩)
            · have HJ3 := Lib.hid hJ3
              have HK3 : Hid (KpX n₀ X W W3) := HK.out.trans ((KpX.of_below HB9.out (Nat.le_trans HN0.out HK.out.size)).trans hk3)
              clear hJ3 hk3 p0 p1 p2 p3 hy
              gi_wp2
              go_wp2_with (fail)
              go_roundw
              case rel => exact ⟨i + 1, j + 1, pre ++ [(⟨⟨x, y, true, true⟩⟩ : PVS w0)], by omega, by omega, by go_num, by go_num, by rw [List.map_append, List.append_assoc]; exact HR9, HJ3, HK3⟩
              case measure => simp [intOf]; omega
            · have HJ3 := Lib.hid hJx3
              clear hJx3 p0 p1 p2 p3 hy
              gi_wp2
              go_wp2_with (fail)
              refine bodyPost_ret (results_none rfl _ _ _) rfl ?_
              exact ⟨⟨_, rfl⟩, .inr ⟨pre ++ [(⟨⟨x, y, true, true⟩⟩ : PVS w0)], ⟨_, by rw [List.map_append, List.append_assoc]; exact HR9.out⟩, HJ3.out⟩⟩
      · obtain rfl : m = j := by omega
        obtain ⟨ade, hAe, ge0⟩ := at_str HA.out i (by omega)
        subst hAe
        have HDA : Hid (a.drop i = a.getD i ⟨#[]⟩ :: a.drop (i + 1)) := drop_getD_S _ _ (by rw [Hn.out]; omega)
        generalize a.getD i ⟨#[]⟩ = x at *
        have HDB : Hid (b.drop m = []) := List.drop_eq_nil_of_le (by rw [Hm.out]; omega)
        have i1 : (i : Int) < (n : Int) := by omega
        have j1 : ((m : Int) == (m : Int)) = true := by simp
        have j3 : ((i : Int) == (n : Int)) = false := by simp; omega
        have HB : Hid (Below wr.heap.size wr wr) := Below.refl _ _
        have HKW : Hid (KpX n₀ X W wr) := HK.out.trans (KpX.of_below HB.out (Nat.le_trans HN0.out HK.out.size))
        have HW0 : Hid (Below w0.heap.size w0 wr) := HKW.out.below HBW.out HN1.out HX.out
        have c1 : wr.cell? ⟨b1, 0, none⟩ = some (.slice (some ade) n ca) := (HKW.out.boxed H1.out HL.out.1 HL.out.2.1).cell
        have c2 : wr.cell? ⟨b2, 0, none⟩ = some (.slice B m cb) := (HKW.out.boxed H2.out HL.out.2.2.1 HL.out.2.2.2.1).cell
        have c3 : wr.cell? ⟨b3, 0, none⟩ = some (.func (.func 44) #[] #[]) := (HKW.out.boxed H3.out HL.out.2.2.2.2.1 HL.out.2.2.2.2.2).cell
        have e0 := pw_cell_below HW0.out ge0
        clear HKW HW0
        clear HB
        have HXp : Hid ((wr.alloc (.cells #[.string ⟨#[]⟩, .string ⟨#[]⟩, .bool false, .bool false] 84)).heap[wr.heap.size]? = some (.cells #[.string ⟨#[]⟩, .string ⟨#[]⟩, .bool false, .bool false] 84 (0, 0))) := Lib.hid (blk_new wr _)
        have HB : Hid (Below wr.heap.size wr (wr.alloc (.cells #[.string ⟨#[]⟩, .string ⟨#[]⟩, .bool false, .bool false] 84))) := (Below.refl _ _).alloc (Nat.le_refl _) _
        go_upto_region 3 with (fail)
        clear c1 c2 c3 e0
        generalize wr.alloc (.cells #[.string ⟨#[]⟩, .string ⟨#[]⟩, .bool false, .bool false] 84) = wc at *
        obtain ⟨p, hp⟩ : ∃ p, p = wr.heap.size := ⟨_, rfl⟩
        rw [← hp] at HXp ⊢
        have HP := HXp
        have HPE := Lib.hid hp
        clear HXp hp
        have HKW : Hid (KpX n₀ X W wc) := HK.out.trans (KpX.of_below HB.out (Nat.le_trans HN0.out HK.out.size))
        have HW0 : Hid (Below w0.heap.size w0 wc) := HKW.out.below HBW.out HN1.out HX.out
        have c1 : wc.cell? ⟨b1, 0, none⟩ = some (.slice (some ade) n ca) := (HKW.out.boxed H1.out HL.out.1 HL.out.2.1).cell
        have c2 : wc.cell? ⟨b2, 0, none⟩ = some (.slice B m cb) := (HKW.out.boxed H2.out HL.out.2.2.1 HL.out.2.2.2.1).cell
        have c3 : wc.cell? ⟨b3, 0, none⟩ = some (.func (.func 44) #[] #[]) := (HKW.out.boxed H3.out HL.out.2.2.2.2.1 HL.out.2.2.2.2.2).cell
        have e0 := pw_cell_below HW0.out ge0
        clear HKW HW0
        refine start_ (n := 27) (S := (fun w' => w'.cell? ⟨b1, 0, none⟩ = some (.slice (some ade) n ca) ∧ w'.cell? ⟨b2, 0, none⟩ = some (.slice B m cb) ∧ w'.cell? ⟨b3, 0, none⟩ = some (.func (.func 44) #[] #[]))) (ds := [26]) #[false, false, false, false, false, false, false, false, false, false, false, false, false, false, false, false, false, false, false, false, false, false, false, false, false, false, false] (by kernel_rfl) rfl rfl ⟨c1, c2, c3⟩ (fun hHeld => ?_)
        have HBd : Hid (Below wr.heap.size wr wc.drew) := HB.out.drew
        have HPd : Hid (wc.drew.heap[p]? = some (.cells #[.string ⟨#[]⟩, .string ⟨#[]⟩, .bool false, .bool false] 84 (0, 0))) := HP.out
        clear HB HP
        generalize wc.drew = W0 at hHeld HBd HPd ⊢
        clear c1 c2 c3
        refine pure_ (i := 0) (N := some 18) (v := ?_) (a' := ?_) #[true, false, false, false, false, false, false, false, false, false, false, false, false, false, false, false, false, false, false, false, false, false, false, false, false, false, false] rfl rfl (by kernel_rfl) (fun _ _ _ h => h) (Or.inl ⟨by rfl, ?_⟩) ?_ ?_
        rotate_left
        · intro w'
          go_simp
          with_reducible rfl
        rotate_left
        · go_simp
          rfl
        refine take_ (i := 1) (N := some 19) (v := ?_) (a' := ?_) #[true, true, false, false, false, false, false, false, false, false, false, false, false, false, false, false, false, false, false, false, false, false, false, false, false, false, false] rfl rfl (by kernel_rfl) (fun _ _ _ h => h) (Or.inl ⟨by rfl, ?_⟩) hHeld ?_ ?_
        rotate_left
        · rintro w' ⟨s0, s1, s2⟩
          go_simp
          with_reducible rfl
        rotate_left
        · go_simp
          rfl
        refine pure_ (i := 2) (N := some 20) (v := ?_) (a' := ?_) #[true, true, true, false, false, false, false, false, false, false, false, false, false, false, false, false, false, false, false, false, false, false, false, false, false, false, false] rfl rfl (by kernel_rfl) (fun _ _ _ h => h) (Or.inl ⟨by rfl, ?_⟩) ?_ ?_
        rotate_left
        · intro w'
          go_simp
          with_reducible rfl
        rotate_left
        · go_simp
          rfl
        refine pure_ (i := 3) (N := some 21) (v := ?_) (a' := ?_) #[true, true, true, true, false, false, false, false, false, false, false, false, false, false, false, false, false, false, false, false, false, false, false, false, false, false, false] rfl rfl (by kernel_rfl) (fun _ _ _ h => h) (Or.inl ⟨by rfl, ?_⟩) ?_ ?_
        rotate_left
        · intro w'
          go_simp
          with_reducible rfl
        rotate_left
        · go_simp
          rfl
        refine pure_ (i := 4) (N := some 22) (v := ?_) (a' := ?_) #[true, true, true, true, true, false, false, false, false, false, false, false, false, false, false, false, false, false, false, false, false, false, false, false, false, false, false] rfl rfl (by kernel_rfl) (fun _ _ _ h => h) (Or.inl ⟨by rfl, ?_⟩) ?_ ?_
        rotate_left
        · intro w'
          go_simp
          with_reducible rfl
        rotate_left
        · go_simp
          rfl
        refine pure_ (i := 5) (N := some 23) (v := undef) (a' := ?_) #[true, true, true, true, true, true, false, false, false, false, false, false, false, false, false, false, false, false, false, false, false, false, false, false, false, false, false] rfl rfl (by kernel_rfl) (fun _ _ _ h => h) (Or.inr ⟨by rfl, rfl⟩) ?_ ?_
        rotate_left
        · go_simp
          rfl
        refine pure_ (i := 6) (N := some 24) (v := undef) (a' := ?_) #[true, true, true, true, true, true, true, false, false, false, false, false, false, false, false, false, false, false, false, false, false, false, false, false, false, false, false] rfl rfl (by kernel_rfl) (fun _ _ _ h => h) (Or.inr ⟨by rfl, rfl⟩) ?_ ?_
        rotate_left
        · go_simp
          rfl
        refine pure_ (i := 7) (N := some 25) (v := undef) (a' := ?_) #[true, true, true, true, true, true, true, true, false, false, false, false, false, false, false, false, false, false, false, false, false, false, false, false, false, false, false] rfl rfl (by kernel_rfl) (fun _ _ _ h => h) (Or.inr ⟨by rfl, rfl⟩) ?_ ?_
        rotate_left
        · go_simp
          rfl
        refine pure_ (i := 8) (N := some 26) (v := undef) (a' := ?_) #[true, true, true, true, true, true, true, true, true, false, false, false, false, false, false, false, false, false, false, false, false, false, false, false, false, false, false] rfl rfl (by kernel_rfl) (fun _ _ _ h => h) (Or.inr ⟨by rfl, rfl⟩) ?_ ?_
        rotate_left
        · go_simp
          rfl
        refine pure_ (i := 9) (N := some 27) (v := undef) (a' := ?_) #[true, true, true, true, true, true, true, true, true, true, false, false, false, false, false, false, false, false, false, false, false, false, false, false, false, false, false] rfl rfl (by kernel_rfl) (fun _ _ _ h => h) (Or.inr ⟨by rfl, rfl⟩) ?_ ?_
        rotate_left
        · go_simp
          rfl
        refine pure_ (i := 10) (N := some 28) (v := undef) (a' := ?_) #[true, true, true, true, true, true, true, true, true, true, true, false, false, false, false, false, false, false, false, false, false, false, false, false, false, false, false] rfl rfl (by kernel_rfl) (fun _ _ _ h => h) (Or.inr ⟨by rfl, rfl⟩) ?_ ?_
        rotate_left
        · go_simp
          rfl
        refine pure_ (i := 11) (N := some 29) (v := undef) (a' := ?_) #[true, true, true, true, true, true, true, true, true, true, true, true, false, false, false, false, false, false, false, false, false, false, false, false, false, false, false] rfl rfl (by kernel_rfl) (fun _ _ _ h => h) (Or.inr ⟨by rfl, rfl⟩) ?_ ?_
        rotate_left
        · go_simp
          rfl
        refine pure_ (i := 12) (N := some 30) (v := undef) (a' := ?_) #[true, true, true, true, true, true, true, true, true, true, true, true, true, false, false, false, false, false, false, false, false, false, false, false, false, false, false] rfl rfl (by kernel_rfl) (fun _ _ _ h => h) (Or.inr ⟨by rfl, rfl⟩) ?_ ?_
        rotate_left
        · go_simp
          rfl
        refine pure_ (i := 13) (N := some 31) (v := undef) (a' := ?_) #[true, true, true, true, true, true, true, true, true, true, true, true, true, true, false, false, false, false, false, false, false, false, false, false, false, false, false] rfl rfl (by kernel_rfl) (fun _ _ _ h => h) (Or.inr ⟨by rfl, rfl⟩) ?_ ?_
        rotate_left
        · go_simp
          rfl
        refine pure_ (i := 14) (N := some 32) (v := undef) (a' := ?_) #[true, true, true, true, true, true, true, true, true, true, true, true, true, true, true, false, false, false, false, false, false, false, false, false, false, false, false] rfl rfl (by kernel_rfl) (fun _ _ _ h => h) (Or.inr ⟨by rfl, rfl⟩) ?_ ?_
        rotate_left
        · go_simp
          rfl
        refine pure_ (i := 15) (N := some 33) (v := undef) (a' := ?_) #[true, true, true, true, true, true, true, true, true, true, true, true, true, true, true, true, false, false, false, false, false, false, false, false, false, false, false] rfl rfl (by kernel_rfl) (fun _ _ _ h => h) (Or.inr ⟨by rfl, rfl⟩) ?_ ?_
        rotate_left
        · go_simp
          rfl
        refine pure_ (i := 16) (N := some 34) (v := undef) (a' := ?_) #[true, true, true, true, true, true, true, true, true, true, true, true, true, true, true, true, true, false, false, false, false, false, false, false, false, false, false] rfl rfl (by kernel_rfl) (fun _ _ _ h => h) (Or.inr ⟨by rfl, rfl⟩) ?_ ?_
        rotate_left
        · go_simp
          rfl
        refine pure_ (i := 17) (N := some 35) (v := undef) (a' := ?_) #[true, true, true, true, true, true, true, true, true, true, true, true, true, true, true, true, true, true, false, false, false, false, false, false, false, false, false] rfl rfl (by kernel_rfl) (fun _ _ _ h => h) (Or.inr ⟨by rfl, rfl⟩) ?_ ?_
        rotate_left
        · go_simp
          rfl
        refine pure_ (i := 18) (N := some 36) (v := undef) (a' := ?_) #[true, true, true, true, true, true, true, true, true, true, true, true, true, true, true, true, true, true, true, false, false, false, false, false, false, false, false] rfl rfl (by kernel_rfl) (fun _ _ _ h => h) (Or.inr ⟨by rfl, rfl⟩) ?_ ?_
        rotate_left
        · go_simp
          rfl
        refine pure_ (i := 19) (N := some 37) (v := undef) (a' := ?_) #[true, true, true, true, true, true, true, true, true, true, true, true, true, true, true, true, true, true, true, true, false, false, false, false, false, false, false] rfl rfl (by kernel_rfl) (fun _ _ _ h => h) (Or.inr ⟨by rfl, rfl⟩) ?_ ?_
        rotate_left
        · go_simp
          rfl
        refine pure_ (i := 20) (N := some 38) (v := undef) (a' := ?_) #[true, true, true, true, true, true, true, true, true, true, true, true, true, true, true, true, true, true, true, true, true, false, false, false, false, false, false] rfl rfl (by kernel_rfl) (fun _ _ _ h => h) (Or.inr ⟨by rfl, rfl⟩) ?_ ?_
        rotate_left
        · go_simp
          rfl
        refine pure_ (i := 21) (N := some 39) (v := undef) (a' := ?_) #[true, true, true, true, true, true, true, true, true, true, true, true, true, true, true, true, true, true, true, true, true, true, false, false, false, false, false] rfl rfl (by kernel_rfl) (fun _ _ _ h => h) (Or.inr ⟨by rfl, rfl⟩) ?_ ?_
        rotate_left
        · go_simp
          rfl
        refine pure_ (i := 22) (N := some 40) (v := undef) (a' := ?_) #[true, true, true, true, true, true, true, true, true, true, true, true, true, true, true, true, true, true, true, true, true, true, true, false, false, false, false] rfl rfl (by kernel_rfl) (fun _ _ _ h => h) (Or.inr ⟨by rfl, rfl⟩) ?_ ?_
        rotate_left
        · go_simp
          rfl
        refine pure_ (i := 23) (N := some 41) (v := undef) (a' := ?_) #[true, true, true, true, true, true, true, true, true, true, true, true, true, true, true, true, true, true, true, true, true, true, true, true, false, false, false] rfl rfl (by kernel_rfl) (fun _ _ _ h => h) (Or.inr ⟨by rfl, rfl⟩) ?_ ?_
        rotate_left
        · go_simp
          rfl
        refine pure_ (i := 24) (N := some 42) (v := ?_) (a' := ?_) #[true, true, true, true, true, true, true, true, true, true, true, true, true, true, true, true, true, true, true, true, true, true, true, true, true, false, false] rfl rfl (by kernel_rfl) (fun _ _ _ h => h) (Or.inl ⟨by rfl, ?_⟩) ?_ ?_
        rotate_left
        · intro w'
          go_simp
          with_reducible rfl
        rotate_left
        · go_simp
          rfl
        refine pure_ (i := 25) (N := some 43) (v := ?_) (a' := ?_) #[true, true, true, true, true, true, true, true, true, true, true, true, true, true, true, true, true, true, true, true, true, true, true, true, true, true, false] rfl rfl (by kernel_rfl) (fun _ _ _ h => h) (Or.inl ⟨by rfl, ?_⟩) ?_ ?_
        rotate_left
        · intro w'
          go_simp
          with_reducible rfl
        rotate_left
        · go_simp
          rfl
        refine last_ (i := 26) (N := none) #[true, true, true, true, true, true, true, true, true, true, true, true, true, true, true, true, true, true, true, true, true, true, true, true, true, true, true] rfl rfl (by kernel_rfl) (by decide) (fun K hK => ?_)
        have x4 : W0.cell? ⟨p, 2, none⟩ = some (.bool false) := blk_at HPd.out 2 rfl
        have z4 : W0.frozen? ⟨p, 2, none⟩ = false := blk_frozen HPd.out 2
        refine skip_ (w1 := W0.setCell ⟨p, 2, none⟩ (.bool true)) (by rfl) rfl (by go_simp; try rfl) ?_
        clear x4 z4
        refine hK.out _ _ ?_
        have HP : Hid ((W0.setCell ⟨p, 2, none⟩ (.bool true)).heap[p]? = some (.cells #[.string ⟨#[]⟩, .string ⟨#[]⟩, .bool true, .bool false] 84 (0, 0))) := blk_put HPd.out 2 _ rfl
        have HB : Hid (Below wr.heap.size wr (W0.setCell ⟨p, 2, none⟩ (.bool true))) := HBd.out.setCell (by rw [HPE.out]; exact Nat.le_refl _) _
        clear hK K HPd HBd hHeld
        generalize W0.setCell ⟨p, 2, none⟩ (.bool true) = wc at *
        refine done_ (by kernel_rfl) ?_
        go_upto_region 4 with (fail)
        have HKW : Hid (KpX n₀ X W wc) := HK.out.trans (KpX.of_below HB.out (Nat.le_trans HN0.out HK.out.size))
        have HW0 : Hid (Below w0.heap.size w0 wc) := HKW.out.below HBW.out HN1.out HX.out
        have c1 : wc.cell? ⟨b1, 0, none⟩ = some (.slice (some ade) n ca) := (HKW.out.boxed H1.out HL.out.1 HL.out.2.1).cell
        have c2 : wc.cell? ⟨b2, 0, none⟩ = some (.slice B m cb) := (HKW.out.boxed H2.out HL.out.2.2.1 HL.out.2.2.2.1).cell
        have c3 : wc.cell? ⟨b3, 0, none⟩ = some (.func (.func 44) #[] #[]) := (HKW.out.boxed H3.out HL.out.2.2.2.2.1 HL.out.2.2.2.2.2).cell
        have e0 := pw_cell_below HW0.out ge0
        clear HKW HW0
        refine start_ (n := 27) (S := (fun w' => w'.cell? ⟨b1, 0, none⟩ = some (.slice (some ade) n ca) ∧ w'.cell? ⟨b2, 0, none⟩ = some (.slice B m cb) ∧ w'.cell? ⟨b3, 0, none⟩ = some (.func (.func 44) #[] #[]))) (ds := [26]) #[false, false, false, false, false, false, false, false, false, false, false, false, false, false, false, false, false, false, false, false, false, false, false, false, false, false, false] (by kernel_rfl) rfl rfl ⟨c1, c2, c3⟩ (fun hHeld => ?_)
        have HBd : Hid (Below wr.heap.size wr wc.drew) := HB.out.drew
        have HPd : Hid (wc.drew.heap[p]? = some (.cells #[.string ⟨#[]⟩, .string ⟨#[]⟩, .bool true, .bool false] 84 (0, 0))) := HP.out
        clear HB HP
        generalize wc.drew = W0 at hHeld HBd HPd ⊢
        clear c1 c2 c3
        refine pure_ (i := 0) (N := some 44) (v := ?_) (a' := ?_) #[true, false, false, false, false, false, false, false, false, false, false, false, false, false, false, false, false, false, false, false, false, false, false, false, false, false, false] rfl rfl (by kernel_rfl) (fun _ _ _ h => h) (Or.inl ⟨by rfl, ?_⟩) ?_ ?_
        rotate_left
        · intro w'
          go_simp
          with_reducible rfl
        rotate_left
        · go_simp
          rfl
        refine take_ (i := 1) (N := some 45) (v := ?_) (a' := ?_) #[true, true, false, false, false, false, false, false, false, false, false, false, false, false, false, false, false, false, false, false, false, false, false, false, false, false, false] rfl rfl (by kernel_rfl) (fun _ _ _ h => h) (Or.inl ⟨by rfl, ?_⟩) hHeld ?_ ?_
        rotate_left
        · rintro w' ⟨s0, s1, s2⟩
          go_simp
          with_reducible rfl
        rotate_left
        · go_simp
          rfl
        refine pure_ (i := 2) (N := some 46) (v := ?_) (a' := ?_) #[true, true, true, false, false, false, false, false, false, false, false, false, false, false, false, false, false, false, false, false, false, false, false, false, false, false, false] rfl rfl (by kernel_rfl) (fun _ _ _ h => h) (Or.inl ⟨by rfl, ?_⟩) ?_ ?_
        rotate_left
        · intro w'
          go_simp
          with_reducible rfl
        rotate_left
        · go_simp
          rfl
        refine pure_ (i := 3) (N := some 47) (v := ?_) (a' := ?_) #[true, true, true, true, false, false, false, false, false, false, false, false, false, false, false, false, false, false, false, false, false, false, false, false, false, false, false] rfl rfl (by kernel_rfl) (fun _ _ _ h => h) (Or.inl ⟨by rfl, ?_⟩) ?_ ?_
        rotate_left
        · intro w'
          go_simp
          with_reducible rfl
        rotate_left
        · go_simp
          rfl
        refine pure_ (i := 4) (N := some 48) (v := ?_) (a' := ?_) #[true, true, true, true, true, false, false, false, false, false, false, false, false, false, false, false, false, false, false, false, false, false, false, false, false, false, false] rfl rfl (by kernel_rfl) (fun _ _ _ h => h) (Or.inl ⟨by rfl, ?_⟩) ?_ ?_
        rotate_left
        · intro w'
          go_simp
          with_reducible rfl
        rotate_left
        · go_simp
          rfl
        refine pure_ (i := 5) (N := some 49) (v := ?_) (a' := ?_) #[true, true, true, true, true, true, false, false, false, false, false, false, false, false, false, false, false, false, false, false, false, false, false, false, false, false, false] rfl rfl (by kernel_rfl) (fun _ _ _ h => h) (Or.inl ⟨by rfl, ?_⟩) ?_ ?_
        rotate_left
        · intro w'
          go_simp
          with_reducible rfl
        rotate_left
        · go_simp
          rfl
        refine take_ (i := 6) (N := some 50) (v := ?_) (a' := ?_) #[true, true, true, true, true, true, true, false, false, false, false, false, false, false, false, false, false, false, false, false, false, false, false, false, false, false, false] rfl rfl (by kernel_rfl) (fun _ _ _ h => h) (Or.inl ⟨by rfl, ?_⟩) hHeld ?_ ?_
        rotate_left
        · rintro w' ⟨s0, s1, s2⟩
          go_simp
          with_reducible rfl
        rotate_left
        · go_simp
          rfl
        refine pure_ (i := 7) (N := some 51) (v := ?_) (a' := ?_) #[true, true, true, true, true, true, true, true, false, false, false, false, false, false, false, false, false, false, false, false, false, false, false, false, false, false, false] rfl rfl (by kernel_rfl) (fun _ _ _ h => h) (Or.inl ⟨by rfl, ?_⟩) ?_ ?_
        rotate_left
        · intro w'
          go_simp
          with_reducible rfl
        rotate_left
        · go_simp
          rfl
        refine pure_ (i := 8) (N := some 52) (v := ?_) (a' := ?_) #[true, true, true, true, true, true, true, true, true, false, false, false, false, false, false, false, false, false, false, false, false, false, false, false, false, false, false] rfl rfl (by kernel_rfl) (fun _ _ _ h => h) (Or.inl ⟨by rfl, ?_⟩) ?_ ?_
        rotate_left
        · intro w'
          go_simp
          with_reducible rfl
        rotate_left
        · go_simp
          rfl
        refine pure_ (i := 9) (N := some 53) (v := ?_) (a' := ?_) #[true, true, true, true, true, true, true, true, true, true, false, false, false, false, false, false, false, false, false, false, false, false, false, false, false, false, false] rfl rfl (by kernel_rfl) (fun _ _ _ h => h) (Or.inl ⟨by rfl, ?_⟩) ?_ ?_
        rotate_left
        · intro w'
          go_simp
          with_reducible rfl
        rotate_left
        · go_simp
          rfl
        refine pure_ (i := 10) (N := some 54) (v := undef) (a' := ?_) #[true, true, true, true, true, true, true, true, true, true, true, false, false, false, false, false, false, false, false, false, false, false, false, false, false, false, false] rfl rfl (by kernel_rfl) (fun _ _ _ h => h) (Or.inr ⟨by rfl, rfl⟩) ?_ ?_
        rotate_left
        · go_simp
          rfl
        refine pure_ (i := 11) (N := some 55) (v := undef) (a' := ?_) #[true, true, true, true, true, true, true, true, true, true, true, true, false, false, false, false, false, false, false, false, false, false, false, false, false, false, false] rfl rfl (by kernel_rfl) (fun _ _ _ h => h) (Or.inr ⟨by rfl, rfl⟩) ?_ ?_
        rotate_left
        · go_simp
          rfl
        refine pure_ (i := 12) (N := some 56) (v := undef) (a' := ?_) #[true, true, true, true, true, true, true, true, true, true, true, true, true, false, false, false, false, false, false, false, false, false, false, false, false, false, false] rfl rfl (by kernel_rfl) (fun _ _ _ h => h) (Or.inr ⟨by rfl, rfl⟩) ?_ ?_
        rotate_left
        · go_simp
          rfl
        refine pure_ (i := 13) (N := some 57) (v := undef) (a' := ?_) #[true, true, true, true, true, true, true, true, true, true, true, true, true, true, false, false, false, false, false, false, false, false, false, false, false, false, false] rfl rfl (by kernel_rfl) (fun _ _ _ h => h) (Or.inr ⟨by rfl, rfl⟩) ?_ ?_
        rotate_left
        · go_simp
          rfl
        refine pure_ (i := 14) (N := some 58) (v := undef) (a' := ?_) #[true, true, true, true, true, true, true, true, true, true, true, true, true, true, true, false, false, false, false, false, false, false, false, false, false, false, false] rfl rfl (by kernel_rfl) (fun _ _ _ h => h) (Or.inr ⟨by rfl, rfl⟩) ?_ ?_
        rotate_left
        · go_simp
          rfl
        refine pure_ (i := 15) (N := some 59) (v := undef) (a' := ?_) #[true, true, true, true, true, true, true, true, true, true, true, true, true, true, true, true, false, false, false, false, false, false, false, false, false, false, false] rfl rfl (by kernel_rfl) (fun _ _ _ h => h) (Or.inr ⟨by rfl, rfl⟩) ?_ ?_
        rotate_left
        · go_simp
          rfl
        refine pure_ (i := 16) (N := some 60) (v := undef) (a' := ?_) #[true, true, true, true, true, true, true, true, true, true, true, true, true, true, true, true, true, false, false, false, false, false, false, false, false, false, false] rfl rfl (by kernel_rfl) (fun _ _ _ h => h) (Or.inr ⟨by rfl, rfl⟩) ?_ ?_
        rotate_left
        · go_simp
          rfl
        refine pure_ (i := 17) (N := some 61) (v := undef) (a' := ?_) #[true, true, true, true, true, true, true, true, true, true, true, true, true, true, true, true, true, true, false, false, false, false, false, false, false, false, false] rfl rfl (by kernel_rfl) (fun _ _ _ h => h) (Or.inr ⟨by rfl, rfl⟩) ?_ ?_
        rotate_left
        · go_simp
          rfl
        refine pure_ (i := 18) (N := some 62) (v := undef) (a' := ?_) #[true, true, true, true, true, true, true, true, true, true, true, true, true, true, true, true, true, true, true, false, false, false, false, false, false, false, false] rfl rfl (by kernel_rfl) (fun _ _ _ h => h) (Or.inr ⟨by rfl, rfl⟩) ?_ ?_
        rotate_left
        · go_simp
          rfl
        refine pure_ (i := 19) (N := some 63) (v := undef) (a' := ?_) #[true, true, true, true, true, true, true, true, true, true, true, true, true, true, true, true, true, true, true, true, false, false, false, false, false, false, false] rfl rfl (by kernel_rfl) (fun _ _ _ h => h) (Or.inr ⟨by rfl, rfl⟩) ?_ ?_
        rotate_left
        · go_simp
          rfl
        refine pure_ (i := 20) (N := some 64) (v := undef) (a' := ?_) #[true, true, true, true, true, true, true, true, true, true, true, true, true, true, true, true, true, true, true, true, true, false, false, false, false, false, false] rfl rfl (by kernel_rfl) (fun _ _ _ h => h) (Or.inr ⟨by rfl, rfl⟩) ?_ ?_
        rotate_left
        · go_simp
          rfl
        refine pure_ (i := 21) (N := some 65) (v := undef) (a' := ?_) #[true, true, true, true, true, true, true, true, true, true, true, true, true, true, true, true, true, true, true, true, true, true, false, false, false, false, false] rfl rfl (by kernel_rfl) (fun _ _ _ h => h) (Or.inr ⟨by rfl, rfl⟩) ?_ ?_
        rotate_left
        · go_simp
          rfl
        refine pure_ (i := 22) (N := some 66) (v := undef) (a' := ?_) #[true, true, true, true, true, true, true, true, true, true, true, true, true, true, true, true, true, true, true, true, true, true, true, false, false, false, false] rfl rfl (by kernel_rfl) (fun _ _ _ h => h) (Or.inr ⟨by rfl, rfl⟩) ?_ ?_
        rotate_left
        · go_simp
          rfl
        refine pure_ (i := 23) (N := some 67) (v := ?_) (a' := ?_) #[true, true, true, true, true, true, true, true, true, true, true, true, true, true, true, true, true, true, true, true, true, true, true, true, false, false, false] rfl rfl (by kernel_rfl) (fun _ _ _ h => h) (Or.inl ⟨by rfl, ?_⟩) ?_ ?_
        rotate_left
        · intro w'
          go_simp
          with_reducible rfl
        rotate_left
        · go_simp
          rfl
        refine pure_ (i := 24) (N := some 68) (v := ?_) (a' := ?_) #[true, true, true, true, true, true, true, true, true, true, true, true, true, true, true, true, true, true, true, true, true, true, true, true, true, false, false] rfl rfl (by kernel_rfl) (fun _ _ _ h => h) (Or.inl ⟨by rfl, ?_⟩) ?_ ?_
        rotate_left
        · intro w'
          go_simp
          with_reducible rfl
        rotate_left
        · go_simp
          rfl
        refine pure_ (i := 25) (N := some 69) (v := ?_) (a' := ?_) #[true, true, true, true, true, true, true, true, true, true, true, true, true, true, true, true, true, true, true, true, true, true, true, true, true, true, false] rfl rfl (by kernel_rfl) (fun _ _ _ h => h) (Or.inl ⟨by rfl, ?_⟩) ?_ ?_
        rotate_left
        · intro w'
          go_simp
          with_reducible rfl
        rotate_left
        · go_simp
          rfl
        refine last_ (i := 26) (N := none) #[true, true, true, true, true, true, true, true, true, true, true, true, true, true, true, true, true, true, true, true, true, true, true, true, true, true, true] rfl rfl (by kernel_rfl) (by decide) (fun K hK => ?_)
        have x4 : W0.cell? ⟨p, 3, none⟩ = some (.bool false) := blk_at HPd.out 3 rfl
        have z4 : W0.frozen? ⟨p, 3, none⟩ = false := blk_frozen HPd.out 3
        refine skip_ (w1 := W0.setCell ⟨p, 3, none⟩ (.bool false)) (by rfl) rfl (by go_simp; try rfl) ?_
        clear x4 z4
        refine hK.out _ _ ?_
        have HP : Hid ((W0.setCell ⟨p, 3, none⟩ (.bool false)).heap[p]? = some (.cells #[.string ⟨#[]⟩, .string ⟨#[]⟩, .bool true, .bool false] 84 (0, 0))) := blk_put HPd.out 3 _ rfl
        have HB : Hid (Below wr.heap.size wr (W0.setCell ⟨p, 3, none⟩ (.bool false))) := HBd.out.setCell (by rw [HPE.out]; exact Nat.le_refl _) _
        clear hK K HPd HBd hHeld
        generalize W0.setCell ⟨p, 3, none⟩ (.bool false) = wc at *
        refine done_ (by kernel_rfl) ?_
        have HKW : Hid (KpX n₀ X W wc) := HK.out.trans (KpX.of_below HB.out (Nat.le_trans HN0.out HK.out.size))
        have HW0 : Hid (Below w0.heap.size w0 wc) := HKW.out.below HBW.out HN1.out HX.out
        have c1 : wc.cell? ⟨b1, 0, none⟩ = some (.slice (some ade) n ca) := (HKW.out.boxed H1.out HL.out.1 HL.out.2.1).cell
        have c2 : wc.cell? ⟨b2, 0, none⟩ = some (.slice B m cb) := (HKW.out.boxed H2.out HL.out.2.2.1 HL.out.2.2.2.1).cell
        have c3 : wc.cell? ⟨b3, 0, none⟩ = some (.func (.func 44) #[] #[]) := (HKW.out.boxed H3.out HL.out.2.2.2.2.1 HL.out.2.2.2.2.2).cell
        have e0 := pw_cell_below HW0.out ge0
        clear HKW HW0
        have p0 : wc.cell? ⟨p, 0, none⟩ = some (.string ⟨#[]⟩) := blk_at HP.out 0 rfl
        have z0 : wc.frozen? ⟨p, 0, none⟩ = false := blk_frozen HP.out 0
        have p1 : wc.cell? ⟨p, 1, none⟩ = some (.string ⟨#[]⟩) := blk_at HP.out 1 rfl
        have z1 : wc.frozen? ⟨p, 1, none⟩ = false := blk_frozen HP.out 1
        have p2 : wc.cell? ⟨p, 2, none⟩ = some (.bool true) := blk_at HP.out 2 rfl
        have z2 : wc.frozen? ⟨p, 2, none⟩ = false := blk_frozen HP.out 2
        have p3 : wc.cell? ⟨p, 3, none⟩ = some (.bool false) := blk_at HP.out 3 rfl
        have z3 : wc.frozen? ⟨p, 3, none⟩ = false := blk_frozen HP.out 3
        go_upto_region 11 with (fail)
        clear c1 c2 c3 e0 p0 z0 p1 z1 p2 z2 p3 z3
        have HP9 : Hid ((wc.setCell ⟨p, 0, none⟩ (.string x)).heap[p]? = some (.cells #[.string x, .string ⟨#[]⟩, .bool true, .bool false] 84 (0, 0))) := blk_put (HP.out) 0 _ rfl
        have HB9 : Hid (Below wr.heap.size wr (wc.setCell ⟨p, 0, none⟩ (.string x))) := (HB.out).setCell (by rw [HPE.out]; exact Nat.le_refl _) _
        clear HP HB
        generalize (wc.setCell ⟨p, 0, none⟩ (.string x)) = W9 at *
        have p0 : W9.cell? ⟨p, 0, none⟩ = some (.string x) := blk_at HP9.out 0 rfl
        have p1 : W9.cell? ⟨p, 1, none⟩ = some (.string ⟨#[]⟩) := blk_at HP9.out 1 rfl
        have p2 : W9.cell? ⟨p, 2, none⟩ = some (.bool true) := blk_at HP9.out 2 rfl
        have p3 : W9.cell? ⟨p, 3, none⟩ = some (.bool false) := blk_at HP9.out 3 rfl
        have HR9 : Hid (pre.map PVS.p ++ (⟨x, ⟨#[]⟩, true, false⟩ : MPS) :: mrgS (a.drop (i + 1)) (b.drop (m)) = mrgS a b) := Lib.hid (by
          rw [← HR.out, HDA.out, HDB.out, mrgS_l x _]
          )
        obtain ⟨fn, tmps, assign, body, hy', hR⟩ := HY.out pre (⟨⟨x, ⟨#[]⟩, true, false⟩⟩ : PVS w0) W9 (HJ.out _ _ _ none HJs.out (grown_of_below HB9.out none) (by simp)) ⟨_, HR9.out⟩
        have hy : (Instr.yield l #[.agg #[.string x, .string ⟨#[]⟩, .bool true, .bool false]]).run Try.prog W9 = .ok (.round l fn tmps assign body) W9 := hy'
        have HRD := Lib.hid hR
        clear hy' hR
        refine (wpIn_wide (n := n0 + 1)).1 ?_
        gi_wp2
        refine HRD.out.mono ?_
        rintro e W3 (⟨rfl, hJ3, hk3⟩ | ⟨rfl, hJx3⟩)
        · have HJ3 := Lib.hid hJ3
          have HK3 : Hid (KpX n₀ X W W3) := HK.out.trans ((KpX.of_below HB9.out (Nat.le_trans HN0.out HK.out.size)).trans hk3)
          clear hJ3 hk3 p0 p1 p2 p3 hy
          gi_wp2
          go_wp2_with (fail)
          go_roundw
          case rel => exact ⟨i + 1, m, pre ++ [(⟨⟨x, ⟨#[]⟩, true, false⟩⟩ : PVS w0)], by omega, by omega, by go_num, by go_num, by rw [List.map_append, List.append_assoc]; exact HR9, HJ3, HK3⟩
          case measure => simp [intOf]; omega
        · have HJ3 := Lib.hid hJx3
          clear hJx3 p0 p1 p2 p3 hy
          gi_wp2
          go_wp2_with (fail)
          refine bodyPost_ret (results_none rfl _ _ _) rfl ?_
          exact ⟨⟨_, rfl⟩, .inr ⟨pre ++ [(⟨⟨x, ⟨#[]⟩, true, false⟩⟩ : PVS w0)], ⟨_, by rw [List.map_append, List.append_assoc]; exact HR9.out⟩, HJ3.out⟩⟩
    · obtain rfl : n = i := by omega
      by_cases hjm : j < m
      · obtain ⟨adf, hAf, gf0⟩ := at_str HBB.out j (by omega)
        subst hAf
        have HDB : Hid (b.drop j = b.getD j ⟨#[]⟩ :: b.drop (j + 1)) := drop_getD_S _ _ (by rw [Hm.out]; omega)
        generalize b.getD j ⟨#[]⟩ = y at *
        have HDA : Hid (a.drop n = []) := List.drop_eq_nil_of_le (by rw [Hn.out]; omega)
        have j2 : (j : Int) < (m : Int) := by omega
        have j1 : ((n : Int) == (n : Int)) = true := by simp
        have j3 : ((j : Int) == (m : Int)) = false := by simp; omega
        have HB : Hid (Below wr.heap.size wr wr) := Below.refl _ _
        have HKW : Hid (KpX n₀ X W wr) := HK.out.trans (KpX.of_below HB.out (Nat.le_trans HN0.out HK.out.size))
        have HW0 : Hid (Below w0.heap.size w0 wr) := HKW.out.below HBW.out HN1.out HX.out
        have c1 : wr.cell? ⟨b1, 0, none⟩ = some (.slice A n ca) := (HKW.out.boxed H1.out HL.out.1 HL.out.2.1).cell
        have c2 : wr.cell? ⟨b2, 0, none⟩ = some (.slice (some adf) m cb) := (HKW.out.boxed H2.out HL.out.2.2.1 HL.out.2.2.2.1).cell
        have c3 : wr.cell? ⟨b3, 0, none⟩ = some (.func (.func 44) #[] #[]) := (HKW.out.boxed H3.out HL.out.2.2.2.2.1 HL.out.2.2.2.2.2).cell
        have f0 := pw_cell_below HW0.out gf0
        clear HKW HW0
        clear HB
        have HXp : Hid ((wr.alloc (.cells #[.string ⟨#[]⟩, .string ⟨#[]⟩, .bool false, .bool false] 84)).heap[wr.heap.size]? = some (.cells #[.string ⟨#[]⟩, .string ⟨#[]⟩, .bool false, .bool false] 84 (0, 0))) := Lib.hid (blk_new wr _)
        have HB : Hid (Below wr.heap.size wr (wr.alloc (.cells #[.string ⟨#[]⟩, .string ⟨#[]⟩, .bool false, .bool false] 84))) := (Below.refl _ _).alloc (Nat.le_refl _) _
        go_upto_region 3 with (fail)
        clear c1 c2 c3 f0
        generalize wr.alloc (.cells #[.string ⟨#[]⟩, .string ⟨#[]⟩, .bool false, .bool false] 84) = wc at *
        obtain ⟨p, hp⟩ : ∃ p, p = wr.heap.size := ⟨_, rfl⟩
        rw [← hp] at HXp ⊢
        have HP := HXp
        have HPE := Lib.hid hp
        clear HXp hp
        have HKW : Hid (KpX n₀ X W wc) := HK.out.trans (KpX.of_below HB.out (Nat.le_trans HN0.out HK.out.size))
        have HW0 : Hid (Below w0.heap.size w0 wc) := HKW.out.below HBW.out HN1.out HX.out
        have c1 : wc.cell? ⟨b1, 0, none⟩ = some (.slice A n ca) := (HKW.out.boxed H1.out HL.out.1 HL.out.2.1).cell
        have c2 : wc.cell? ⟨b2, 0, none⟩ = some (.slice (some adf) m cb) := (HKW.out.boxed H2.out HL.out.2.2.1 HL.out.2.2.2.1).cell
        have c3 : wc.cell? ⟨b3, 0, none⟩ = some (.func (.func 44) #[] #[]) := (HKW.out.boxed H3.out HL.out.2.2.2.2.1 HL.out.2.2.2.2.2).cell
        have f0 := pw_cell_below HW0.out gf0
        clear HKW HW0
        refine start_ (n := 27) (S := (fun w' => w'.cell? ⟨b1, 0, none⟩ = some (.slice A n ca) ∧ w'.cell? ⟨b2, 0, none⟩ = some (.slice (some adf) m cb) ∧ w'.cell? ⟨b3, 0, none⟩ = some (.func (.func 44) #[] #[]))) (ds := [26]) #[false, false, false, false, false, false, false, false, false, false, false, false, false, false, false, false, false, false, false, false, false, false, false, false, false, false, false] (by kernel_rfl) rfl rfl ⟨c1, c2, c3⟩ (fun hHeld => ?_)
        have HBd : Hid (Below wr.heap.size wr wc.drew) := HB.out.drew
        have HPd : Hid (wc.drew.heap[p]? = some (.cells #[.string ⟨#[]⟩, .string ⟨#[]⟩, .bool false, .bool false] 84 (0, 0))) := HP.out
        clear HB HP
        generalize wc.drew = W0 at hHeld HBd HPd ⊢
        clear c1 c2 c3
        refine pure_ (i := 0) (N := some 18) (v := ?_) (a' := ?_) #[true, false, false, false, false, false, false, false, false, false, false, false, false, false, false, false, false, false, false, false, false, false, false, false, false, false, false] rfl rfl (by kernel_rfl) (fun _ _ _ h => h) (Or.inl ⟨by rfl, ?_⟩) ?_ ?_
        rotate_left
        · intro w'
          go_simp
          with_reducible rfl
        rotate_left
        · go_simp
          rfl
        refine take_ (i := 1) (N := some 19) (v := ?_) (a' := ?_) #[true, true, false, false, false, false, false, false, false, false, false, false, false, false, false, false, false, false, false, false, false, false, false, false, false, false, false] rfl rfl (by kernel_rfl) (fun _ _ _ h => h) (Or.inl ⟨by rfl, ?_⟩) hHeld ?_ ?_
        rotate_left
        · rintro w' ⟨s0, s1, s2⟩
          go_simp
          with_reducible rfl
        rotate_left
        · go_simp
          rfl
        refine pure_ (i := 2) (N := some 20) (v := ?_) (a' := ?_) #[true, true, true, false, false, false, false, false, false, false, false, false, false, false, false, false, false, false, false, false, false, false, false, false, false, false, false] rfl rfl (by kernel_rfl) (fun _ _ _ h => h) (Or.inl ⟨by rfl, ?_⟩) ?_ ?_
        rotate_left
        · intro w'
          go_simp
          with_reducible rfl
        rotate_left
        · go_simp
          rfl
        refine pure_ (i := 3) (N := some 21) (v := ?_) (a' := ?_) #[true, true, true, true, false, false, false, false, false, false, false, false, false, false, false, false, false, false, false, false, false, false, false, false, false, false, false] rfl rfl (by kernel_rfl) (fun _ _ _ h => h) (Or.inl ⟨by rfl, ?_⟩) ?_ ?_
        rotate_left
        · intro w'
          go_simp
          with_reducible rfl
        rotate_left
        · go_simp
          rfl
        refine pure_ (i := 4) (N := some 22) (v := ?_) (a' := ?_) #[true, true, true, true, true, false, false, false, false, false, false, false, false, false, false, false, false, false, false, false, false, false, false, false, false, false, false] rfl rfl (by kernel_rfl) (fun _ _ _ h => h) (Or.inl ⟨by rfl, ?_⟩) ?_ ?_
        rotate_left
        · intro w'
          go_simp
          with_reducible rfl
        rotate_left
        · go_simp
          rfl
        refine pure_ (i := 5) (N := some 23) (v := ?_) (a' := ?_) #[true, true, true, true, true, true, false, false, false, false, false, false, false, false, false, false, false, false, false, false, false, false, false, false, false, false, false] rfl rfl (by kernel_rfl) (fun _ _ _ h => h) (Or.inl ⟨by rfl, ?_⟩) ?_ ?_
        rotate_left
        · intro w'
          go_simp
          with_reducible rfl
        rotate_left
        · go_simp
          rfl
        refine take_ (i := 6) (N := some 24) (v := ?_) (a' := ?_) #[true, true, true, true, true, true, true, false, false, false, false, false, false, false, false, false, false, false, false, false, false, false, false, false, false, false, false] rfl rfl (by kernel_rfl) (fun _ _ _ h => h) (Or.inl ⟨by rfl, ?_⟩) hHeld ?_ ?_
        rotate_left
        · rintro w' ⟨s0, s1, s2⟩
          go_simp
          with_reducible rfl
        rotate_left
        · go_simp
          rfl
        refine pure_ (i := 7) (N := some 25) (v := ?_) (a' := ?_) #[true, true, true, true, true, true, true, true, false, false, false, false, false, false, false, false, false, false, false, false, false, false, false, false, false, false, false] rfl rfl (by kernel_rfl) (fun _ _ _ h => h) (Or.inl ⟨by rfl, ?_⟩) ?_ ?_
        rotate_left
        · intro w'
          go_simp
          with_reducible rfl
        rotate_left
        · go_simp
          rfl
        refine pure_ (i := 8) (N := some 26) (v := ?_) (a' := ?_) #[true, true, true, true, true, true, true, true, true, false, false, false, false, false, false, false, false, false, false, false, false, false, false, false, false, false, false] rfl rfl (by kernel_rfl) (fun _ _ _ h => h) (Or.inl ⟨by rfl, ?_⟩) ?_ ?_
        rotate_left
        · intro w'
          go_simp
          with_reducible rfl
        rotate_left
        · go_simp
          rfl
        refine pure_ (i := 9) (N := some 27) (v := ?_) (a' := ?_) #[true, true, true, true, true, true, true, true, true, true, false, false, false, false, false, false, false, false, false, false, false, false, false, false, false, false, false] rfl rfl (by kernel_rfl) (fun _ _ _ h => h) (Or.inl ⟨by rfl, ?_⟩) ?_ ?_
        rotate_left
        · intro w'
          go_simp
          with_reducible rfl
        rotate_left
        · go_simp
          rfl
        refine pure_ (i := 10) (N := some 28) (v := undef) (a' := ?_) #[true, true, true, true, true, true, true, true, true, true, true, false, false, false, false, false, false, false, false, false, false, false, false, false, false, false, false] rfl rfl (by kernel_rfl) (fun _ _ _ h => h) (Or.inr ⟨by rfl, rfl⟩) ?_ ?_
        rotate_left
        · go_simp
          rfl
        refine pure_ (i := 11) (N := some 29) (v := undef) (a' := ?_) #[true, true, true, true, true, true, true, true, true, true, true, true, false, false, false, false, false, false, false, false, false, false, false, false, false, false, false] rfl rfl (by kernel_rfl) (fun _ _ _ h => h) (Or.inr ⟨by rfl, rfl⟩) ?_ ?_
        rotate_left
        · go_simp
          rfl
        refine pure_ (i := 12) (N := some 30) (v := undef) (a' := ?_) #[true, true, true, true, true, true, true, true, true, true, true, true, true, false, false, false, false, false, false, false, false, false, false, false, false, false, false] rfl rfl (by kernel_rfl) (fun _ _ _ h => h) (Or.inr ⟨by rfl, rfl⟩) ?_ ?_
        rotate_left
        · go_simp
          rfl
        refine pure_ (i := 13) (N := some 31) (v := undef) (a' := ?_) #[true, true, true, true, true, true, true, true, true, true, true, true, true, true, false, false, false, false, false, false, false, false, false, false, false, false, false] rfl rfl (by kernel_rfl) (fun _ _ _ h => h) (Or.inr ⟨by rfl, rfl⟩) ?_ ?_
        rotate_left
        · go_simp
          rfl
        refine pure_ (i := 14) (N := some 32) (v := undef) (a' := ?_) #[true, true, true, true, true, true, true, true, true, true, true, true, true, true, true, false, false, false, false, false, false, false, false, false, false, false, false] rfl rfl (by kernel_rfl) (fun _ _ _ h => h) (Or.inr ⟨by rfl, rfl⟩) ?_ ?_
        rotate_left
        · go_simp
          rfl
        refine pure_ (i := 15) (N := some 33) (v := undef) (a' := ?_) #[true, true, true, true, true, true, true, true, true, true, true, true, true, true, true, true, false, false, false, false, false, false, false, false, false, false, false] rfl rfl (by kernel_rfl) (fun _ _ _ h => h) (Or.inr ⟨by rfl, rfl⟩) ?_ ?_
        rotate_left
        · go_simp
          rfl
        refine pure_ (i := 16) (N := some 34) (v := undef) (a' := ?_) #[true, true, true, true, true, true, true, true, true, true, true, true, true, true, true, true, true, false, false, false, false, false, false, false, false, false, false] rfl rfl (by kernel_rfl) (fun _ _ _ h => h) (Or.inr ⟨by rfl, rfl⟩) ?_ ?_
        rotate_left
        · go_simp
          rfl
        refine pure_ (i := 17) (N := some 35) (v := undef) (a' := ?_) #[true, true, true, true, true, true, true, true, true, true, true, true, true, true, true, true, true, true, false, false, false, false, false, false, false, false, false] rfl rfl (by kernel_rfl) (fun _ _ _ h => h) (Or.inr ⟨by rfl, rfl⟩) ?_ ?_
        rotate_left
        · go_simp
          rfl
        refine pure_ (i := 18) (N := some 36) (v := undef) (a' := ?_) #[true, true, true, true, true, true, true, true, true, true, true, true, true, true, true, true, true, true, true, false, false, false, false, false, false, false, false] rfl rfl (by kernel_rfl) (fun _ _ _ h => h) (Or.inr ⟨by rfl, rfl⟩) ?_ ?_
        rotate_left
        · go_simp
          rfl
        refine pure_ (i := 19) (N := some 37) (v := undef) (a' := ?_) #[true, true, true, true, true, true, true, true, true, true, true, true, true, true, true, true, true, true, true, true, false, false, false, false, false, false, false] rfl rfl (by kernel_rfl) (fun _ _ _ h => h) (Or.inr ⟨by rfl, rfl⟩) ?_ ?_
        rotate_left
        · go_simp
          rfl
        refine pure_ (i := 20) (N := some 38) (v := undef) (a' := ?_) #[true, true, true, true, true, true, true, true, true, true, true, true, true, true, true, true, true, true, true, true, true, false, false, false, false, false, false] rfl rfl (by kernel_rfl) (fun _ _ _ h => h) (Or.inr ⟨by rfl, rfl⟩) ?_ ?_
        rotate_left
        · go_simp
          rfl
        refine pure_ (i := 21) (N := some 39) (v := undef) (a' := ?_) #[true, true, true, true, true, true, true, true, true, true, true, true, true, true, true, true, true, true, true, true, true, true, false, false, false, false, false] rfl rfl (by kernel_rfl) (fun _ _ _ h => h) (Or.inr ⟨by rfl, rfl⟩) ?_ ?_
        rotate_left
        · go_simp
          rfl
        refine pure_ (i := 22) (N := some 40) (v := undef) (a' := ?_) #[true, true, true, true, true, true, true, true, true, true, true, true, true, true, true, true, true, true, true, true, true, true, true, false, false, false, false] rfl rfl (by kernel_rfl) (fun _ _ _ h => h) (Or.inr ⟨by rfl, rfl⟩) ?_ ?_
        rotate_left
        · go_simp
          rfl
        refine pure_ (i := 23) (N := some 41) (v := ?_) (a' := ?_) #[true, true, true, true, true, true, true, true, true, true, true, true, true, true, true, true, true, true, true, true, true, true, true, true, false, false, false] rfl rfl (by kernel_rfl) (fun _ _ _ h => h) (Or.inl ⟨by rfl, ?_⟩) ?_ ?_
        rotate_left
        · intro w'
          go_simp
          with_reducible rfl
        rotate_left
        · go_simp
          rfl
        refine pure_ (i := 24) (N := some 42) (v := ?_) (a' := ?_) #[true, true, true, true, true, true, true, true, true, true, true, true, true, true, true, true, true, true, true, true, true, true, true, true, true, false, false] rfl rfl (by kernel_rfl) (fun _ _ _ h => h) (Or.inl ⟨by rfl, ?_⟩) ?_ ?_
        rotate_left
        · intro w'
          go_simp
          with_reducible rfl
        rotate_left
        · go_simp
          rfl
        refine pure_ (i := 25) (N := some 43) (v := ?_) (a' := ?_) #[true, true, true, true, true, true, true, true, true, true, true, true, true, true, true, true, true, true, true, true, true, true, true, true, true, true, false] rfl rfl (by kernel_rfl) (fun _ _ _ h => h) (Or.inl ⟨by rfl, ?_⟩) ?_ ?_
        rotate_left
        · intro w'
          go_simp
          with_reducible rfl
        rotate_left
        · go_simp
          rfl
        refine last_ (i := 26) (N := none) #[true, true, true, true, true, true, true, true, true, true, true, true, true, true, true, true, true, true, true, true, true, true, true, true, true, true, true] rfl rfl (by kernel_rfl) (by decide) (fun K hK => ?_)
        have x4 : W0.cell? ⟨p, 2, none⟩ = some (.bool false) := blk_at HPd.out 2 rfl
        have z4 : W0.frozen? ⟨p, 2, none⟩ = false := blk_frozen HPd.out 2
        refine skip_ (w1 := W0.setCell ⟨p, 2, none⟩ (.bool false)) (by rfl) rfl (by go_simp; try rfl) ?_
        clear x4 z4
        refine hK.out _ _ ?_
        have HP : Hid ((W0.setCell ⟨p, 2, none⟩ (.bool false)).heap[p]? = some (.cells #[.string ⟨#[]⟩, .string ⟨#[]⟩, .bool false, .bool false] 84 (0, 0))) := blk_put HPd.out 2 _ rfl
        have HB : Hid (Below wr.heap.size wr (W0.setCell ⟨p, 2, none⟩ (.bool false))) := HBd.out.setCell (by rw [HPE.out]; exact Nat.le_refl _) _
        clear hK K HPd HBd hHeld
        generalize W0.setCell ⟨p, 2, none⟩ (.bool false) = wc at *
        refine done_ (by kernel_rfl) ?_
        go_upto_region 4 with (fail)
        have HKW : Hid (KpX n₀ X W wc) := HK.out.trans (KpX.of_below HB.out (Nat.le_trans HN0.out HK.out.size))
        have HW0 : Hid (Below w0.heap.size w0 wc) := HKW.out.below HBW.out HN1.out HX.out
        have c1 : wc.cell? ⟨b1, 0, none⟩ = some (.slice A n ca) := (HKW.out.boxed H1.out HL.out.1 HL.out.2.1).cell
        have c2 : wc.cell? ⟨b2, 0, none⟩ = some (.slice (some adf) m cb) := (HKW.out.boxed H2.out HL.out.2.2.1 HL.out.2.2.2.1).cell
        have c3 : wc.cell? ⟨b3, 0, none⟩ = some (.func (.func 44) #[] #[]) := (HKW.out.boxed H3.out HL.out.2.2.2.2.1 HL.out.2.2.2.2.2).cell
        have f0 := pw_cell_below HW0.out gf0
        clear HKW HW0
        refine start_ (n := 27) (S := (fun w' => w'.cell? ⟨b1, 0, none⟩ = some (.slice A n ca) ∧ w'.cell? ⟨b2, 0, none⟩ = some (.slice (some adf) m cb) ∧ w'.cell? ⟨b3, 0, none⟩ = some (.func (.func 44) #[] #[]))) (ds := [26]) #[false, false, false, false, false, false, false, false, false, false, false, false, false, false, false, false, false, false, false, false, false, false, false, false, false, false, false] (by kernel_rfl) rfl rfl ⟨c1, c2, c3⟩ (fun hHeld => ?_)
        have HBd : Hid (Below wr.heap.size wr wc.drew) := HB.out.drew
        have HPd : Hid (wc.drew.heap[p]? = some (.cells #[.string ⟨#[]⟩, .string ⟨#[]⟩, .bool false, .bool false] 84 (0, 0))) := HP.out
        clear HB HP
        generalize wc.drew = W0 at hHeld HBd HPd ⊢
        clear c1 c2 c3
        refine pure_ (i := 0) (N := some 44) (v := ?_) (a' := ?_) #[true, false, false, false, false, false, false, false, false, false, false, false, false, false, false, false, false, false, false, false, false, false, false, false, false, false, false] rfl rfl (by kernel_rfl) (fun _ _ _ h => h) (Or.inl ⟨by rfl, ?_⟩) ?_ ?_
        rotate_left
        · intro w'
          go_simp
          with_reducible rfl
        rotate_left
        · go_simp
          rfl
        refine take_ (i := 1) (N := some 45) (v := ?_) (a' := ?_) #[true, true, false, false, false, false, false, false, false, false, false, false, false, false, false, false, false, false, false, false, false, false, false, false, false, false, false] rfl rfl (by kernel_rfl) (fun _ _ _ h => h) (Or.inl ⟨by rfl, ?_⟩) hHeld ?_ ?_
        rotate_left
        · rintro w' ⟨s0, s1, s2⟩
          go_simp
          with_reducible rfl
        rotate_left
        · go_simp
          rfl
        refine pure_ (i := 2) (N := some 46) (v := ?_) (a' := ?_) #[true, true, true, false, false, false, false, false, false, false, false, false, false, false, false, false, false, false, false, false, false, false, false, false, false, false, false] rfl rfl (by kernel_rfl) (fun _ _ _ h => h) (Or.inl ⟨by rfl, ?_⟩) ?_ ?_
        rotate_left
        · intro w'
          go_simp
          with_reducible rfl
        rotate_left
        · go_simp
          rfl
        refine pure_ (i := 3) (N := some 47) (v := ?_) (a' := ?_) #[true, true, true, true, false, false, false, false, false, false, false, false, false, false, false, false, false, false, false, false, false, false, false, false, false, false, false] rfl rfl (by kernel_rfl) (fun _ _ _ h => h) (Or.inl ⟨by rfl, ?_⟩) ?_ ?_
        rotate_left
        · intro w'
          go_simp
          with_reducible rfl
        rotate_left
        · go_simp
          rfl
        refine pure_ (i := 4) (N := some 48) (v := ?_) (a' := ?_) #[true, true, true, true, true, false, false, false, false, false, false, false, false, false, false, false, false, false, false, false, false, false, false, false, false, false, false] rfl rfl (by kernel_rfl) (fun _ _ _ h => h) (Or.inl ⟨by rfl, ?_⟩) ?_ ?_
        rotate_left
        · intro w'
          go_simp
          with_reducible rfl
        rotate_left
        · go_simp
          rfl
        refine pure_ (i := 5) (N := some 49) (v := undef) (a' := ?_) #[true, true, true, true, true, true, false, false, false, false, false, false, false, false, false, false, false, false, false, false, false, false, false, false, false, false, false] rfl rfl (by kernel_rfl) (fun _ _ _ h => h) (Or.inr ⟨by rfl, rfl⟩) ?_ ?_
        rotate_left
        · go_simp
          rfl
        refine pure_ (i := 6) (N := some 50) (v := undef) (a' := ?_) #[true, true, true, true, true, true, true, false, false, false, false, false, false, false, false, false, false, false, false, false, false, false, false, false, false, false, false] rfl rfl (by kernel_rfl) (fun _ _ _ h => h) (Or.inr ⟨by rfl, rfl⟩) ?_ ?_
        rotate_left
        · go_simp
          rfl
        refine pure_ (i := 7) (N := some 51) (v := undef) (a' := ?_) #[true, true, true, true, true, true, true, true, false, false, false, false, false, false, false, false, false, false, false, false, false, false, false, false, false, false, false] rfl rfl (by kernel_rfl) (fun _ _ _ h => h) (Or.inr ⟨by rfl, rfl⟩) ?_ ?_
        rotate_left
        · go_simp
          rfl
        refine pure_ (i := 8) (N := some 52) (v := undef) (a' := ?_) #[true, true, true, true, true, true, true, true, true, false, false, false, false, false, false, false, false, false, false, false, false, false, false, false, false, false, false] rfl rfl (by kernel_rfl) (fun _ _ _ h => h) (Or.inr ⟨by rfl, rfl⟩) ?_ ?_
        rotate_left
        · go_simp
          rfl
        refine pure_ (i := 9) (N := some 53) (v := undef) (a' := ?_) #[true, true, true, true, true, true, true, true, true, true, false, false, false, false, false, false, false, false, false, false, false, false, false, false, false, false, false] rfl rfl (by kernel_rfl) (fun _ _ _ h => h) (Or.inr ⟨by rfl, rfl⟩) ?_ ?_
        rotate_left
        · go_simp
          rfl
        refine pure_ (i := 10) (N := some 54) (v := undef) (a' := ?_) #[true, true, true, true, true, true, true, true, true, true, true, false, false, false, false, false, false, false, false, false, false, false, false, false, false, false, false] rfl rfl (by kernel_rfl) (fun _ _ _ h => h) (Or.inr ⟨by rfl, rfl⟩) ?_ ?_
        rotate_left
        · go_simp
          rfl
        refine pure_ (i := 11) (N := some 55) (v := undef) (a' := ?_) #[true, true, true, true, true, true, true, true, true, true, true, true, false, false, false, false, false, false, false, false, false, false, false, false, false, false, false] rfl rfl (by kernel_rfl) (fun _ _ _ h => h) (Or.inr ⟨by rfl, rfl⟩) ?_ ?_
        rotate_left
        · go_simp
          rfl
        refine pure_ (i := 12) (N := some 56) (v := undef) (a' := ?_) #[true, true, true, true, true, true, true, true, true, true, true, true, true, false, false, false, false, false, false, false, false, false, false, false, false, false, false] rfl rfl (by kernel_rfl) (fun _ _ _ h => h) (Or.inr ⟨by rfl, rfl⟩) ?_ ?_
        rotate_left
        · go_simp
          rfl
        refine pure_ (i := 13) (N := some 57) (v := undef) (a' := ?_) #[true, true, true, true, true, true, true, true, true, true, true, true, true, true, false, false, false, false, false, false, false, false, false, false, false, false, false] rfl rfl (by kernel_rfl) (fun _ _ _ h => h) (Or.inr ⟨by rfl, rfl⟩) ?_ ?_
        rotate_left
        · go_simp
          rfl
        refine pure_ (i := 14) (N := some 58) (v := undef) (a' := ?_) #[true, true, true, true, true, true, true, true, true, true, true, true, true, true, true, false, false, false, false, false, false, false, false, false, false, false, false] rfl rfl (by kernel_rfl) (fun _ _ _ h => h) (Or.inr ⟨by rfl, rfl⟩) ?_ ?_
        rotate_left
        · go_simp
          rfl
        refine pure_ (i := 15) (N := some 59) (v := undef) (a' := ?_) #[true, true, true, true, true, true, true, true, true, true, true, true, true, true, true, true, false, false, false, false, false, false, false, false, false, false, false] rfl rfl (by kernel_rfl) (fun _ _ _ h => h) (Or.inr ⟨by rfl, rfl⟩) ?_ ?_
        rotate_left
        · go_simp
          rfl
        refine pure_ (i := 16) (N := some 60) (v := undef) (a' := ?_) #[true, true, true, true, true, true, true, true, true, true, true, true, true, true, true, true, true, false, false, false, false, false, false, false, false, false, false] rfl rfl (by kernel_rfl) (fun _ _ _ h => h) (Or.inr ⟨by rfl, rfl⟩) ?_ ?_
        rotate_left
        · go_simp
          rfl
        refine pure_ (i := 17) (N := some 61) (v := undef) (a' := ?_) #[true, true, true, true, true, true, true, true, true, true, true, true, true, true, true, true, true, true, false, false, false, false, false, false, false, false, false] rfl rfl (by kernel_rfl) (fun _ _ _ h => h) (Or.inr ⟨by rfl, rfl⟩) ?_ ?_
        rotate_left
        · go_simp
          rfl
        refine pure_ (i := 18) (N := some 62) (v := undef) (a' := ?_) #[true, true, true, true, true, true, true, true, true, true, true, true, true, true, true, true, true, true, true, false, false, false, false, false, false, false, false] rfl rfl (by kernel_rfl) (fun _ _ _ h => h) (Or.inr ⟨by rfl, rfl⟩) ?_ ?_
        rotate_left
        · go_simp
          rfl
        refine pure_ (i := 19) (N := some 63) (v := undef) (a' := ?_) #[true, true, true, true, true, true, true, true, true, true, true, true, true, true, true, true, true, true, true, true, false, false, false, false, false, false, false] rfl rfl (by kernel_rfl) (fun _ _ _ h => h) (Or.inr ⟨by rfl, rfl⟩) ?_ ?_
        rotate_left
        · go_simp
          rfl
        refine pure_ (i := 20) (N := some 64) (v := undef) (a' := ?_) #[true, true, true, true, true, true, true, true, true, true, true, true, true, true, true, true, true, true, true, true, true, false, false, false, false, false, false] rfl rfl (by kernel_rfl) (fun _ _ _ h => h) (Or.inr ⟨by rfl, rfl⟩) ?_ ?_
        rotate_left
        · go_simp
          rfl
        refine pure_ (i := 21) (N := some 65) (v := undef) (a' := ?_) #[true, true, true, true, true, true, true, true, true, true, true, true, true, true, true, true, true, true, true, true, true, true, false, false, false, false, false] rfl rfl (by kernel_rfl) (fun _ _ _ h => h) (Or.inr ⟨by rfl, rfl⟩) ?_ ?_
        rotate_left
        · go_simp
          rfl
        refine pure_ (i := 22) (N := some 66) (v := undef) (a' := ?_) #[true, true, true, true, true, true, true, true, true, true, true, true, true, true, true, true, true, true, true, true, true, true, true, false, false, false, false] rfl rfl (by kernel_rfl) (fun _ _ _ h => h) (Or.inr ⟨by rfl, rfl⟩) ?_ ?_
        rotate_left
        · go_simp
          rfl
        refine pure_ (i := 23) (N := some 67) (v := undef) (a' := ?_) #[true, true, true, true, true, true, true, true, true, true, true, true, true, true, true, true, true, true, true, true, true, true, true, true, false, false, false] rfl rfl (by kernel_rfl) (fun _ _ _ h => h) (Or.inr ⟨by rfl, rfl⟩) ?_ ?_
        rotate_left
        · go_simp
          rfl
        refine pure_ (i := 24) (N := some 68) (v := ?_) (a' := ?_) #[true, true, true, true, true, true, true, true, true, true, true, true, true, true, true, true, true, true, true, true, true, true, true, true, true, false, false] rfl rfl (by kernel_rfl) (fun _ _ _ h => h) (Or.inl ⟨by rfl, ?_⟩) ?_ ?_
        rotate_left
        · intro w'
          go_simp
          with_reducible rfl
        rotate_left
        · go_simp
          rfl
        refine pure_ (i := 25) (N := some 69) (v := ?_) (a' := ?_) #[true, true, true, true, true, true, true, true, true, true, true, true, true, true, true, true, true, true, true, true, true, true, true, true, true, true, false] rfl rfl (by kernel_rfl) (fun _ _ _ h => h) (Or.inl ⟨by rfl, ?_⟩) ?_ ?_
        rotate_left
        · intro w'
          go_simp
          with_reducible rfl
        rotate_left
        · go_simp
          rfl
        refine last_ (i := 26) (N := none) #[true, true, true, true, true, true, true, true, true, true, true, true, true, true, true, true, true, true, true, true, true, true, true, true, true, true, true] rfl rfl (by kernel_rfl) (by decide) (fun K hK => ?_)
        have x4 : W0.cell? ⟨p, 3, none⟩ = some (.bool false) := blk_at HPd.out 3 rfl
        have z4 : W0.frozen? ⟨p, 3, none⟩ = false := blk_frozen HPd.out 3
        refine skip_ (w1 := W0.setCell ⟨p, 3, none⟩ (.bool true)) (by rfl) rfl (by go_simp; try rfl) ?_
        clear x4 z4
        refine hK.out _ _ ?_
        have HP : Hid ((W0.setCell ⟨p, 3, none⟩ (.bool true)).heap[p]? = some (.cells #[.string ⟨#[]⟩, .string ⟨#[]⟩, .bool false, .bool true] 84 (0, 0))) := blk_put HPd.out 3 _ rfl
        have HB : Hid (Below wr.heap.size wr (W0.setCell ⟨p, 3, none⟩ (.bool true))) := HBd.out.setCell (by rw [HPE.out]; exact Nat.le_refl _) _
        clear hK K HPd HBd hHeld
        generalize W0.setCell ⟨p, 3, none⟩ (.bool true) = wc at *
        refine done_ (by kernel_rfl) ?_
        have HKW : Hid (KpX n₀ X W wc) := HK.out.trans (KpX.of_below HB.out (Nat.le_trans HN0.out HK.out.size))
        have HW0 : Hid (Below w0.heap.size w0 wc) := HKW.out.below HBW.out HN1.out HX.out
        have c1 : wc.cell? ⟨b1, 0, none⟩ = some (.slice A n ca) := (HKW.out.boxed H1.out HL.out.1 HL.out.2.1).cell
        have c2 : wc.cell? ⟨b2, 0, none⟩ = some (.slice (some adf) m cb) := (HKW.out.boxed H2.out HL.out.2.2.1 HL.out.2.2.2.1).cell
        have c3 : wc.cell? ⟨b3, 0, none⟩ = some (.func (.func 44) #[] #[]) := (HKW.out.boxed H3.out HL.out.2.2.2.2.1 HL.out.2.2.2.2.2).cell
        have f0 := pw_cell_below HW0.out gf0
        clear HKW HW0
        have p0 : wc.cell? ⟨p, 0, none⟩ = some (.string ⟨#[]⟩) := blk_at HP.out 0 rfl
        have z0 : wc.frozen? ⟨p, 0, none⟩ = false := blk_frozen HP.out 0
        have p1 : wc.cell? ⟨p, 1, none⟩ = some (.string ⟨#[]⟩) := blk_at HP.out 1 rfl
        have z1 : wc.frozen? ⟨p, 1, none⟩ = false := blk_frozen HP.out 1
        have p2 : wc.cell? ⟨p, 2, none⟩ = some (.bool false) := blk_at HP.out 2 rfl
        have z2 : wc.frozen? ⟨p, 2, none⟩ = false := blk_frozen HP.out 2
        have p3 : wc.cell? ⟨p, 3, none⟩ = some (.bool true) := blk_at HP.out 3 rfl
        have z3 : wc.frozen? ⟨p, 3, none⟩ = false := blk_frozen HP.out 3
        go_upto_region 11 with (fail)
        clear c1 c2 c3 f0 p0 z0 p1 z1 p2 z2 p3 z3
        have HP9 : Hid ((wc.setCell ⟨p, 1, none⟩ (.string y)).heap[p]? = some (.cells #[.string ⟨#[]⟩, .string y, .bool false, .bool true] 84 (0, 0))) := blk_put (HP.out) 1 _ rfl
        have HB9 : Hid (Below wr.heap.size wr (wc.setCell ⟨p, 1, none⟩ (.string y))) := (HB.out).setCell (by rw [HPE.out]; exact Nat.le_refl _) _
        clear HP HB
        generalize (wc.setCell ⟨p, 1, none⟩ (.string y)) = W9 at *
        have p0 : W9.cell? ⟨p, 0, none⟩ = some (.string ⟨#[]⟩) := blk_at HP9.out 0 rfl
        have p1 : W9.cell? ⟨p, 1, none⟩ = some (.string y) := blk_at HP9.out 1 rfl
        have p2 : W9.cell? ⟨p, 2, none⟩ = some (.bool false) := blk_at HP9.out 2 rfl
        have p3 : W9.cell? ⟨p, 3, none⟩ = some (.bool true) := blk_at HP9.out 3 rfl
        have HR9 : Hid (pre.map PVS.p ++ (⟨⟨#[]⟩, y, false, true⟩ : MPS) :: mrgS (a.drop (n)) (b.drop (j + 1)) = mrgS a b) := Lib.hid (by
          rw [← HR.out, HDA.out, HDB.out, mrgS_r y _]
          )
        obtain ⟨fn, tmps, assign, body, hy', hR⟩ := HY.out pre (⟨⟨⟨#[]⟩, y, false, true⟩⟩ : PVS w0) W9 (HJ.out _ _ _ none HJs.out (grown_of_below HB9.out none) (by simp)) ⟨_, HR9.out⟩
        have hy : (Instr.yield l #[.agg #[.string ⟨#[]⟩, .string y, .bool false, .bool true]]).run Try.prog W9 = .ok (.round l fn tmps assign body) W9 := hy'
        have HRD := Lib.hid hR
        clear hy' hR
        refine (wpIn_wide (n := n0 + 1)).1 ?_
        gi_wp2
        refine HRD.out.mono ?_
        rintro e W3 (⟨rfl, hJ3, hk3⟩ | ⟨rfl, hJx3⟩)
        · have HJ3 := Lib.hid hJ3
          have HK3 : Hid (KpX n₀ X W W3) := HK.out.trans ((KpX.of_below HB9.out (Nat.le_trans HN0.out HK.out.size)).trans hk3)
          clear hJ3 hk3 p0 p1 p2 p3 hy
          gi_wp2
          go_wp2_with (fail)
          go_roundw
          case rel => exact ⟨n, j + 1, pre ++ [(⟨⟨⟨#[]⟩, y, false, true⟩⟩ : PVS w0)], by omega, by omega, by go_num, by go_num, by rw [List.map_append, List.append_assoc]; exact HR9, HJ3, HK3⟩
          case measure => simp [intOf]; omega
        · have HJ3 := Lib.hid hJx3
          clear hJx3 p0 p1 p2 p3 hy
          gi_wp2
          go_wp2_with (fail)
          refine bodyPost_ret (results_none rfl _ _ _) rfl ?_
          exact ⟨⟨_, rfl⟩, .inr ⟨pre ++ [(⟨⟨⟨#[]⟩, y, false, true⟩⟩ : PVS w0)], ⟨_, by rw [List.map_append, List.append_assoc]; exact HR9.out⟩, HJ3.out⟩⟩
      · obtain rfl : m = j := by omega
        have HB : Hid (Below wr.heap.size wr wr) := Below.refl _ _
        have HKW : Hid (KpX n₀ X W wr) := HK.out.trans (KpX.of_below HB.out (Nat.le_trans HN0.out HK.out.size))
        have HW0 : Hid (Below w0.heap.size w0 wr) := HKW.out.below HBW.out HN1.out HX.out
        have c1 : wr.cell? ⟨b1, 0, none⟩ = some (.slice A n ca) := (HKW.out.boxed H1.out HL.out.1 HL.out.2.1).cell
        have c2 : wr.cell? ⟨b2, 0, none⟩ = some (.slice B m cb) := (HKW.out.boxed H2.out HL.out.2.2.1 HL.out.2.2.2.1).cell
        have c3 : wr.cell? ⟨b3, 0, none⟩ = some (.func (.func 44) #[] #[]) := (HKW.out.boxed H3.out HL.out.2.2.2.2.1 HL.out.2.2.2.2.2).cell
        clear HKW HW0
        have HD : Hid (pre.map PVS.p = mrgS a b) := Lib.hid (by
          rw [← HR.out, List.drop_eq_nil_of_le (by rw [Hn.out]; exact Nat.le_refl _), List.drop_eq_nil_of_le (by rw [Hm.out]; exact Nat.le_refl _), mrgS_nil, List.append_nil])
        go_wp2_with (fail)
        go_end0
        exact ⟨⟨_, rfl⟩, .inl ⟨pre, HD.out, HJs.out⟩⟩
end Go.Proofs.Ytpplnhefpcofoaa.PDeltaJoin
