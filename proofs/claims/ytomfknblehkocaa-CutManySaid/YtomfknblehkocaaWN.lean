/- CutMany, walked. -/
import Derived.Test.YtomfknblehkocaaFK
import Derived.Laws.BytesArg
import Derived.IntWalk
namespace Go.Proofs.Ytomfknblehkocaa.C
open Go.RowKit Go.Proofs.YtomfknblehkocaaW.PrintWords Go.Proofs.YtomfknblehkocaaW.PrintLast
set_option linter.unusedVariables false
set_option linter.unusedSimpArgs false
theorem info62 : (Try.prog.info? 62).map (fun i => (i.zero, i.size, i.bytes)) = some (some (.pointer none), 1, 8) := by kernel_rfl
def BeganS (base g i : Nat) (w : World) (e : Ending) (w' : World) : Prop :=
  e = .returned (.bool true) ∧ ∃ ow, PairS w' base ow g (modeOf i) (-1) (portsOf i) 0 ∧ Only g w w' ∧ ∀ k, ow k ≠ 0 → w.heap.size ≤ k
theorem beginS (w : World) (g i : Nat) (hg : w.heap[g]? = some (.cells #[.pointer none, .pointer none] 65 (0, 0))) (base : Nat) (hb : base ≤ w.heap.size) :
    Calls Try.prog 27 #[.pointer (some ⟨g, 0, none⟩), .int .i64 (1 + (i : Int) % 3), .int .i64 (2 + (i : Int) % 3), .int .i64 (-1)] w fun e w' => BeganS base g i w e w' := by
  have e1 : 1 + (i : Int) % 3 = modeOf i := by unfold modeOf; omega
  have e2 : 2 + (i : Int) % 3 = ((portsOf i : Nat) : Int) := by unfold portsOf; omega
  rw [e1, e2]
  refine (begin27_ok w g hg (modeOf i) (portsOf i : Int) (-1) base hb (legalOf i)).mono ?_
  rintro e w' ⟨he, ob, oR, gb, gr, hp, hO, hl⟩
  obtain ⟨h1, h2, h3, h4⟩ := legal_rel (legalOf i)
  rw [Int.toNat_natCast] at hp h2 h4
  exact ⟨he, both ob oR, ⟨_, _, ob, oR, gb, gr, rfl, hp, Rel.new h2 h3 h4, Fit.new _ _ _, Nat.zero_le _, h1, h2, h3, h4⟩, hO, hl⟩
/-- The record of a key, as a row of one. -/
def keyR (key : ByteArray) : S45 := ⟨key, z42, []⟩
def keyCells (key : ByteArray) : Array Value := #[.string key, .int .i64 0, .int .i64 0, .string ⟨#[]⟩, .slice none 0 0, .slice none 0 0]
theorem keyR_row (key : ByteArray) (w : World) (base : Nat) (hb : base ≤ w.heap.size) : Kd.R k45 45 (w.alloc (.cells (keyCells key) 45)) base (fun k => w.heap.size ≤ k) (.slice (some ⟨w.heap.size, 0, none⟩) 1 1) [keyR key] := by
  have hm : k45.M (w.alloc (.cells (keyCells key) 45)) base (fun k => w.heap.size ≤ k ∧ some k ≠ (Value.slice (some ⟨w.heap.size, 0, none⟩) 1 1).ownBlock) (keyR key) [.string key, .int .i64 0, .int .i64 0, .string ⟨#[]⟩, .slice none 0 0, .slice none 0 0] := k45_mkM _ _ _ (keyR key) (Kd.R_nil _ _ _ _ _) (Kd.R_nil _ _ _ _ _)
  have hr : Reps (k45.M (w.alloc (.cells (keyCells key) 45)) base (fun k => w.heap.size ≤ k ∧ some k ≠ (Value.slice (some ⟨w.heap.size, 0, none⟩) 1 1).ownBlock)) k45.sz [keyR key] [.string key, .int .i64 0, .int .i64 0, .string ⟨#[]⟩, .slice none 0 0, .slice none 0 0] := by
    have := Reps.snoc (Reps.none _ k45.sz) hm rfl
    exact this
  refine ⟨fun k hk => ?_, OwnRow.lit w base hr hb (by simp)⟩
  have : w.heap.size = k := by simpa [Value.ownBlock] using hk
  exact Nat.le_of_eq this
section
variable {W : World} {base : Nat} {L : List Nat} {ow : Nat → Nat → Nat} {os : Nat → Prop} {vl : Value} {M : Nat}
theorem Many.nil (W : World) (base : Nat) : Many W base [] (fun _ _ => 0) (fun _ => False) (.slice none 0 0) 0 :=
  ⟨fun i hi => absurd hi (Nat.not_lt_zero _), fun i j hi => absurd hi (Nat.not_lt_zero _), fun i j hi => absurd hi (Nat.not_lt_zero _), Kd.R_nil _ _ _ _ _, fun i k hi => absurd hi (Nat.not_lt_zero _), fun i hi => absurd hi (Nat.not_lt_zero _), fun k hk => hk.elim⟩
theorem Many.cell' {gl cl n : Nat} (h : Many W base L ow os (.slice (some ⟨gl, 0, none⟩) n cl) M) (i : Nat) (hl : L.length = n) (hi : i < n) : W.cell? ⟨gl, i, none⟩ = some (.pointer (some ⟨L.getD i 0, 0, none⟩)) := by
  subst hl
  exact h.cell i hi
theorem Many.free (h : Many W base L ow os vl M) {i : Nat} (hi : i < L.length) : ∀ k, W.heap.size ≤ k → ow i k = 0 := fun k hk => by
  by_cases h0 : ow i k = 0
  · exact h0
  · have := ((h.pr i hi).lo k h0).2; omega
end
theorem PairS.now {W : World} {base g : Nat} {ow : Nat → Nat} {mode back : Int} {n M : Nat} (h : PairS W base ow g mode back n M) : ∃ gr idn, W.cell? ⟨g, 1, none⟩ = some (.pointer (some ⟨gr, 0, none⟩)) ∧ Calls Try.prog 32 #[.pointer (some ⟨gr, 0, none⟩)] W fun e w' => e = .returned (.int .i64 idn) ∧ Hid (Below W.heap.size W w') := by
  obtain ⟨b, r, ob, oR, gb, gr, rfl, hp, h1, h2, h3, h4⟩ := h
  obtain ⟨Ar, cr, hr0⟩ := hp.hr
  refine ⟨gr, r.last, blk_at hp.hg 1 rfl, ?_⟩
  exact now32 hr0
/-- What the i-th pair answers to a call. -/
def PlayedM (base : Nat) (L : List Nat) (os : Nat → Prop) (vl : Value) (M : Nat) (w0 W : World) (o : Nat → Nat) (e : Ending) (w' : World) : Prop :=
  e = .returned (.bool true) ∧ ∃ ow', Hid (Many w' base L ow' os vl M) ∧ Hid (Below w0.heap.size w0 w') ∧ Hid (∀ j, j < W.heap.size → o j = 0 → w'.heap[j]? = W.heap[j]?)
section
variable {w0 W : World} {L : List Nat} {ow : Nat → Nat → Nat} {os : Nat → Prop} {vl : Value} {M : Nat}
theorem playM (h : Many W w0.heap.size L ow os vl M) (hb : Below w0.heap.size w0 W) {i : Nat} (hi : i < L.length) (hM : M ≤ 50000) (o : S47) (A8 : Option Addr) (c8 : Nat) (A9 : Option Addr) (c9 : Nat) (A10 : Option Addr) (c10 : Nat) (A11 : Option Addr) (c11 : Nat) (A13 : Option Addr) (c13 : Nat) (a8 : Away k42 (ow i) W A8 o.f4.f1.f3) (l8 : o.f4.f1.f3.length ≤ c8) (a9 : Away (Kd.int .i64) (ow i) W A9 o.f4.f2) (l9 : o.f4.f2.length ≤ c9) (a10 : Away k45 (ow i) W A10 o.f5) (l10 : o.f5.length ≤ c10) (a11 : Away k45 (ow i) W A11 o.f6) (l11 : o.f6.length ≤ c11) (a13 : Away k104 (ow i) W A13 o.f7.f1) (l13 : o.f7.f1.length ≤ c13) (hpo : partsO o ≤ 20000) {N : Nat} (hN : M + partsO o ≤ N) :
    Calls Try.prog 28 #[.pointer (some ⟨L.getD i 0, 0, none⟩), .agg #[.int .i64 o.f0, .int .i64 o.f1, .int .i64 o.f2, .int .i64 o.f3, .string o.f4.f0, .int .i64 o.f4.f1.f0, .int .i64 o.f4.f1.f1, .string o.f4.f1.f2, .slice A8 o.f4.f1.f3.length c8, .slice A9 o.f4.f2.length c9, .slice A10 o.f5.length c10, .slice A11 o.f6.length c11, .int .i64 o.f7.f0, .slice A13 o.f7.f1.length c13]] W fun e w' => PlayedM w0.heap.size L os vl N w0 W (ow i) e w' := by
  refine (playS (h.pr i hi) hM o A8 c8 A9 c9 A10 c10 A11 c11 A13 c13 a8 l8 a9 l9 a10 l10 a11 l11 a13 l13 hpo).mono ?_
  rintro e w' ⟨he, ow', hS, hu⟩
  exact ⟨he, _, Lib.hid ((h.step hi hS hu).mono hN), Lib.hid (hb.trans (hu.below hb.size (fun k hk => by
    by_cases h0 : ow i k = 0
    · exact h0
    · have := ((h.pr i hi).lo k h0).1; omega))), Lib.hid (fun j hj h0 => hu.block j hj h0)⟩
/-- A call without lists (but, perhaps, pending records in memory of its own). -/
theorem playM0 (h : Many W w0.heap.size L ow os vl M) (hb : Below w0.heap.size w0 W) {i : Nat} (hi : i < L.length) (hM : M ≤ 50000) (kind port idn num : Int) (key : ByteArray) {N : Nat} (hN : M + 1 ≤ N) :
    Calls Try.prog 28 #[.pointer (some ⟨L.getD i 0, 0, none⟩), .agg #[.int .i64 kind, .int .i64 0, .int .i64 port, .int .i64 idn, .string key, .int .i64 0, .int .i64 0, .string ⟨#[]⟩, .slice none 0 0, .slice none 0 0, .slice none 0 0, .slice none 0 0, .int .i64 num, .slice none 0 0]] W fun e w' => PlayedM w0.heap.size L os vl N w0 W (ow i) e w' :=
  playM h hb hi hM ⟨kind, 0, port, idn, keyR key, [], [], ⟨num, []⟩⟩ none 0 none 0 none 0 none 0 none 0 (Away.nil _ _ _) (Nat.le_refl _) (Away.nil _ _ _) (Nat.le_refl _) (Away.nil _ _ _) (Nat.le_refl _) (Away.nil _ _ _) (Nat.le_refl _) (Away.nil _ _ _) (Nat.le_refl _) (by show 1 + 0 + 0 + 0 + 0 + 0 ≤ 20000; omega) (by show M + (1 + 0 + 0 + 0 + 0 + 0) ≤ N; omega)
theorem playM1 (h : Many W w0.heap.size L ow os vl M) (hb : Below w0.heap.size w0 W) {i : Nat} (hi : i < L.length) (hM : M ≤ 50000) (kind port idn num : Int) (key : ByteArray) {N : Nat} (hN : M + 2 ≤ N) :
    Calls Try.prog 28 #[.pointer (some ⟨L.getD i 0, 0, none⟩), .agg #[.int .i64 kind, .int .i64 0, .int .i64 port, .int .i64 idn, .string ⟨#[]⟩, .int .i64 0, .int .i64 0, .string ⟨#[]⟩, .slice none 0 0, .slice none 0 0, .slice none 0 0, .slice (some ⟨W.heap.size, 0, none⟩) 1 1, .int .i64 num, .slice none 0 0]] (W.alloc (.cells (keyCells key) 45)) fun e w' => PlayedM w0.heap.size L os vl N w0 (W.alloc (.cells (keyCells key) 45)) (ow i) e w' := by
  have hW : Below W.heap.size W (W.alloc (.cells (keyCells key) 45)) := (Below.refl _ _).alloc (Nat.le_refl _) _
  exact playM (h.below hW) (hb.trans (hW.mono hb.size)) hi hM ⟨kind, 0, port, idn, z45, [], [keyR key], ⟨num, []⟩⟩ none 0 none 0 none 0 (some ⟨W.heap.size, 0, none⟩) 1 none 0 (Away.nil _ _ _) (Nat.le_refl _) (Away.nil _ _ _) (Nat.le_refl _) (Away.nil _ _ _) (Nat.le_refl _) (Away.of_R (keyR_row key W w0.heap.size hb.size) (fun k hk _ => h.free hi k hk)) (Nat.le_refl _) (Away.nil _ _ _) (Nat.le_refl _) (by show 1 + 0 + 0 + 0 + 0 + (1 + 0 + 0 + 0) ≤ 20000; omega) (by show M + (1 + 0 + 0 + 0 + 0 + (1 + 0 + 0 + 0)) ≤ N; omega)
end
set_option maxRecDepth 100000 in
set_option maxHeartbeats 8000000 in
theorem many_walk (nn : Int) (l : List S47) (A : Option Addr) (cc : Nat) (w : World) (hC : Kd.C k47 w A l.length l) (hc : l.length ≤ cc) (hl : ∀ y ∈ l, lenO y) :
    Calls Try.prog 12 #[.int .i64 nn, .slice A l.length cc] w fun e w' => e = .returned (.bool true) ∧ Below w.heap.size w w' := by
  obtain ⟨n, hn⟩ : ∃ n, n = l.length := ⟨_, rfl⟩
  have Hn := Lib.hid hn
  have HC := Lib.hid hC
  have hmax : n ≤ 9223372036854775807 := by rw [hn]; exact Kd.C_max hC
  have HIN : Hid (Calls Try.prog 17 #[.slice A n cc] w fun e w' => InsideAns l e ∧ Hid (Below w.heap.size w w')) := by
    rw [hn]
    exact inside17 l A cc w hC hl
  rw [← hn]
  clear hC hn hl
  by_cases h0 : nn < 0
  · have h0' : decide (nn < 0) = true := decide_eq_true h0
    clear h0
    go_enter Try.func12, Try.ntmps12
    go_wp2_with (fail)
    go_ret
    exact ⟨rfl, Below.refl _ _⟩
  have h0' : decide (nn < 0) = false := decide_eq_false h0
  by_cases h9 : 69 < nn
  · have h9' : decide (69 < nn) = true := decide_eq_true h9
    clear h0 h9
    go_enter Try.func12, Try.ntmps12
    go_wp2_with (fail)
    go_ret
    exact ⟨rfl, Below.refl _ _⟩
  have h9' : decide (69 < nn) = false := decide_eq_false h9
  obtain ⟨q, rfl⟩ : ∃ q : Nat, nn = (q : Int) := ⟨nn.toNat, by omega⟩
  have hq : q ≤ 69 := by omega
  clear h0 h9
  by_cases h6 : 600 < n
  · have h6' : decide (600 < n) = true := decide_eq_true h6
    have h6'' : decide (600 < (n : Int)) = true := decide_eq_true (by omega)
    clear h6
    go_enter Try.func12, Try.ntmps12
    go_wp2_with (fail)
    go_ret
    exact ⟨rfl, Below.refl _ _⟩
  have h6' : decide (600 < n) = false := decide_eq_false h6
  have h6'' : decide (600 < (n : Int)) = false := decide_eq_false (by omega)
  go_enter Try.func12, Try.ntmps12
  go_wp2_with (go_at_call 17; refine (HIN.out).mono ?_; rintro e w1 ⟨⟨bi, rfl, hbi⟩, hb⟩
               have HB1 := Lib.hid hb.out
               have HBI := Lib.hid hbi
               clear hb hbi
               cases bi)
  · go_ret
    exact ⟨rfl, HB1.out⟩
  have Hp : Hid (partsOs l ≤ 10000) := HBI.out (by first | rfl | trivial)
  have hn6 : n ≤ 600 := by simpa using h6
  clear HBI HIN h6' h6'' h6 h0' h9'
  obtain ⟨m, hm1, hm2⟩ : ∃ m : Nat, m ≤ q + 2 ∧ q + 2 ≤ m := ⟨q + 2, Nat.le_refl _, Nat.le_refl _⟩
  have hm3 : (q : Int) + 2 ≤ (m : Int) := by omega
  have hm4 : (m : Int) ≤ (q : Int) + 2 := by omega
  go_loopw [5, 6, 7] (fun v5 v6 v7 wr => ∃ (L : List Nat) (ow : Nat → Nat → Nat) (os : Nat → Prop) (k : Nat), k ≤ m ∧ v6 = .int .i64 k ∧ Hid (Many wr w.heap.size L ow os v5 0) ∧ Hid (L.length = k) ∧ Hid (Below w.heap.size w wr)) (fun _ v6 _ _ => m - (intOf v6).toNat)
  case atStart => exact ⟨[], _, _, 0, Nat.zero_le _, rfl, Many.nil _ _, rfl, HB1⟩
  case round =>
    clear HB1
    obtain ⟨L, ow, os, k, hk, rfl, HT, HL, HB⟩ := hrel
    by_cases hlt : k < m
    rotate_left
    · obtain rfl : m = k := by omega
      obtain ⟨gl, cl, hv, hgl1, hgl2, _⟩ := Kd.R_form HT.out.sl (by rw [HL.out]; omega)
      rw [HL.out] at hv
      subst hv
      clear hk hlt hgl1 hgl2
      go_wp2_with (fail)
      go_loopw [8, 9, 10] (fun v8 v9 v10 wr => ∃ (ow : Nat → Nat → Nat) (k : Nat), k ≤ m ∧ v8 = .int .i64 k ∧ Hid (Many wr w.heap.size L ow os (.slice (some ⟨gl, 0, none⟩) m cl) (3 * k)) ∧ Hid (Below w.heap.size w wr)) (fun v8 _ _ _ => m - (intOf v8).toNat)
      case atStart => exact ⟨ow, 0, Nat.zero_le _, rfl, HT, HB⟩
      case round =>
        clear HT HB
        obtain ⟨ow, k, hk, rfl, HT, HB⟩ := hrel
        by_cases hlt : k < m
        rotate_left
        · obtain rfl : m = k := by omega
          clear hk hlt
          go_wp2_with (fail)
          go_loopw [11] (fun v11 wr => ∃ (ow : Nat → Nat → Nat) (k : Nat), k ≤ n ∧ v11 = .int .i64 k ∧ Hid (Many wr w.heap.size L ow os (.slice (some ⟨gl, 0, none⟩) m cl) (3 * m + partsOs (l.take k))) ∧ Hid (Below w.heap.size w wr)) (fun v11 _ => n - (intOf v11).toNat)
          case atStart => exact ⟨ow, 0, Nat.zero_le _, rfl, HT, HB⟩
          case round =>
            clear HT HB
            obtain ⟨ow, k, hk, rfl, HT, HB⟩ := hrel
            by_cases hlt : k < n
            rotate_left
            · obtain rfl : n = k := by omega
              have hpt : partsOs (l.take n) ≤ 10000 := Nat.le_trans (partsOs_take_le l n) Hp.out
              replace HT := Lib.hid (HT.out.mono (M' := 11000) (by omega))
              clear hk hlt hpt
              go_wp2_with (fail)
              go_loopw [12, 13, 14] (fun v12 v13 v14 wr => ∃ (ow : Nat → Nat → Nat) (k : Nat), k ≤ m ∧ v12 = .int .i64 k ∧ Hid (Many wr w.heap.size L ow os (.slice (some ⟨gl, 0, none⟩) m cl) (11000 + 16 * k)) ∧ Hid (Below w.heap.size w wr)) (fun v12 _ _ _ => m - (intOf v12).toNat)
              case atStart => exact ⟨ow, 0, Nat.zero_le _, rfl, HT, HB⟩
              case round =>
                clear HT HB
                obtain ⟨ow, k, hk, rfl, HT, HB⟩ := hrel
                by_cases hlt : k < m
                rotate_left
                · obtain rfl : m = k := by omega
                  go_wp2_with (fail)
                  go_ret
                  exact ⟨rfl, HB.out⟩
                have i0 : (0 : Int) ≤ (k : Int) := by omega
                have i1 : (k : Int) < (q : Int) + 2 := by omega
                have i9 : (k : Int) < (m : Int) := by omega
                have c0 : wr.cell? ⟨gl, k, none⟩ = some (.pointer (some ⟨L.getD k 0, 0, none⟩)) := HT.out.cell' k HL.out hlt
                obtain ⟨gr, idn, c1, hnow⟩ := (HT.out.pr k (by rw [HL.out]; exact hlt)).now
                have HN := Lib.hid hnow
                clear hnow
                generalize L.getD k 0 = gk at c0 c1
                go_wp2_with (go_at_call 32; refine HN.out.mono ?_; rintro e w2 ⟨rfl, hb⟩
                             replace HB := Lib.hid (HB.out.trans (hb.out.mono HB.out.size))
                             replace HT := Lib.hid (HT.out.below hb.out)
                             clear hb)
                clear c0 c1 HN
                go_loopw [14] (fun v14 wr => ∃ (ow : Nat → Nat → Nat) (j : Nat), j ≤ 5 ∧ v14 = .int .i64 j ∧ Hid (Many wr w.heap.size L ow os (.slice (some ⟨gl, 0, none⟩) m cl) (11000 + 16 * k + 3 * j)) ∧ Hid (Below w.heap.size w wr)) (fun v14 _ => 5 - (intOf v14).toNat)
                case atStart => exact ⟨ow, 0, Nat.zero_le _, rfl, HT, HB⟩
                case round =>
                  clear HT HB
                  obtain ⟨ow, j, hj, rfl, HT, HB⟩ := hrel
                  have c0 : wr.cell? ⟨gl, k, none⟩ = some (.pointer (some ⟨L.getD k 0, 0, none⟩)) := HT.out.cell' k HL.out hlt
                  by_cases hl5 : j < 5
                  rotate_left
                  · obtain rfl : j = 5 := by omega
                    have HPM := Lib.hid (playM0 HT.out HB.out (i := k) (by rw [HL.out]; exact hlt) (by omega) 3 0 0 0 ⟨#[]⟩ (N := 11000 + 16 * (k + 1)) (by omega))
                    go_wp2_with (fail)
                    refine HPM.out.mono ?_
                    rintro e w6 ⟨rfl, ow6, HT6, HB6, hk6⟩
                    clear hk6 HPM c0 HT HB
                    go_wp2_with (fail)
                    go_roundw
                    case rel => exact ⟨ow6, k + 1, by omega, by go_num, HT6, HB6⟩
                    case measure => simp [intOf]; omega
                  have i2 : (0 : Int) ≤ (j : Int) := by omega
                  have i3 : (j : Int) < 5 := by omega
                  have HPM1 := Lib.hid (playM0 HT.out HB.out (i := k) (by rw [HL.out]; exact hlt) (by omega) 4 (j : Int) 0 0 ⟨#[]⟩ (N := 11000 + 16 * k + 3 * j + 1) (by omega))
                  go_wp2_with (fail)
                  refine HPM1.out.mono ?_
                  rintro e w1 ⟨rfl, ow1, HT1, HB1, hk1⟩
                  have c1 : w1.cell? ⟨gl, k, none⟩ = some (.pointer (some ⟨L.getD k 0, 0, none⟩)) := HT1.out.cell' k HL.out hlt
                  clear hk1 HPM1 HT HB
                  have HPM2 := Lib.hid (playM0 HT1.out HB1.out (i := k) (by rw [HL.out]; exact hlt) (by omega) 5 0 0 0 ⟨#[]⟩ (N := 11000 + 16 * k + 3 * j + 2) (by omega))
                  go_wp2_with (fail)
                  refine HPM2.out.mono ?_
                  rintro e w2 ⟨rfl, ow2, HT2, HB2, hk2⟩
                  have c2 : w2.cell? ⟨gl, k, none⟩ = some (.pointer (some ⟨L.getD k 0, 0, none⟩)) := HT2.out.cell' k HL.out hlt
                  clear hk2 HPM2 HT1 HB1
                  have HPM3 := Lib.hid (playM0 HT2.out HB2.out (i := k) (by rw [HL.out]; exact hlt) (by omega) 2 (j : Int) idn 0 ⟨#[]⟩ (N := 11000 + 16 * k + 3 * (j + 1)) (by omega))
                  go_wp2_with (fail)
                  refine HPM3.out.mono ?_
                  rintro e w3 ⟨rfl, ow3, HT3, HB3, hk3⟩
                  have c3 : w3.cell? ⟨gl, k, none⟩ = some (.pointer (some ⟨L.getD k 0, 0, none⟩)) := HT3.out.cell' k HL.out hlt
                  clear hk3 HPM3 HT2 HB2
                  go_wp2_with (fail)
                  go_roundw
                  case rel => exact ⟨ow3, j + 1, by omega, by go_num, HT3, HB3⟩
                  case measure => simp [intOf]; omega
            obtain ⟨ad, A8, c8, A9, c9, A10, c10, A11, c11, A13, c13, rfl, e0, e1, e2, e3, e4, e5, e6, e7, e8, e9, e10, e11, e12, e13, hl8, hC8, hl9, hC9, hl10, hC10, hl11, hC11, hl13, hC13⟩ := at_T47 HC.out (k : Int) (by omega) (by rw [← Hn.out]; omega)
            have hst : partsOs (l.take (k + 1)) = partsOs (l.take k) + partsO (rd_T47 l (k : Int)) := partsOs_step l k _ (by rw [← Hn.out]; exact hlt)
            generalize rd_T47 l (k : Int) = o at *
            rw [Int.toNat_natCast] at e0 e1 e2 e3 e4 e5 e6 e7 e8 e9 e10 e11 e12 e13
            replace e0 := (HB.out.cell (World.block_lt_of_cell? w _ e0)).trans e0
            replace e1 := (HB.out.cell (World.block_lt_of_cell? w _ e1)).trans e1
            replace e2 := (HB.out.cell (World.block_lt_of_cell? w _ e2)).trans e2
            replace e3 := (HB.out.cell (World.block_lt_of_cell? w _ e3)).trans e3
            replace e4 := (HB.out.cell (World.block_lt_of_cell? w _ e4)).trans e4
            replace e5 := (HB.out.cell (World.block_lt_of_cell? w _ e5)).trans e5
            replace e6 := (HB.out.cell (World.block_lt_of_cell? w _ e6)).trans e6
            replace e7 := (HB.out.cell (World.block_lt_of_cell? w _ e7)).trans e7
            replace e8 := (HB.out.cell (World.block_lt_of_cell? w _ e8)).trans e8
            replace e9 := (HB.out.cell (World.block_lt_of_cell? w _ e9)).trans e9
            replace e10 := (HB.out.cell (World.block_lt_of_cell? w _ e10)).trans e10
            replace e11 := (HB.out.cell (World.block_lt_of_cell? w _ e11)).trans e11
            replace e12 := (HB.out.cell (World.block_lt_of_cell? w _ e12)).trans e12
            replace e13 := (HB.out.cell (World.block_lt_of_cell? w _ e13)).trans e13
            have hpt : partsOs (l.take k) ≤ 10000 := Nat.le_trans (partsOs_take_le l k) Hp.out
            have hpo : partsO o ≤ 10000 := by
              have h1 := partsOs_take_le l (k + 1)
              have h2 := Hp.out
              omega
            have HST := Lib.hid hst
            obtain ⟨ix, hixe⟩ : ∃ ix, ix = (7 * k) % (q + 2) := ⟨_, rfl⟩
            have hix : ix < m := by have := Nat.mod_lt (7 * k) (show 0 < q + 2 by omega); omega
            have j2 : Int.tmod (7 * (k : Int)) ((q : Int) + 2) = (ix : Int) := by
              rw [Int.tmod_eq_emod_of_nonneg (by omega), hixe]
              push_cast
              rfl
            have j3 : (7 * (k : Int)) % ((q : Int) + 2) = (ix : Int) := by
              rw [hixe]
              push_cast
              rfl
            clear hixe hst
            have i0 : (0 : Int) ≤ (k : Int) := by omega
            have i1 : (k : Int) < (n : Int) := by omega
            have i2 : (0 : Int) ≤ (ix : Int) := by omega
            have i3 : (ix : Int) < (m : Int) := by omega
            have i4 : ¬ ((q : Int) + 2 = 0) := by omega
            have j0 : IntKind.i64.wrap (7 * (k : Int)) = 7 * (k : Int) := IntWalk.i64_in _ (by omega)
            have j1 : IntKind.i64.wrap ((q : Int) + 2) = (q : Int) + 2 := IntWalk.i64_in _ (by omega)
            go_upto_region 21 with (fail)
            refine start_ (n := 14) (S := (fun w' => w'.cell? ⟨gl, ix, none⟩ = some (.pointer (some ⟨L.getD ix 0, 0, none⟩)) ∧ w'.cell? (ad.add (k * 14)) = some (.int .i64 o.f0) ∧ w'.cell? ⟨(ad.add (k * 14)).block, (ad.add (k * 14)).off + 1, none⟩ = some (.int .i64 o.f1) ∧ w'.cell? ⟨(ad.add (k * 14)).block, (ad.add (k * 14)).off + 2, none⟩ = some (.int .i64 o.f2) ∧ w'.cell? ⟨(ad.add (k * 14)).block, (ad.add (k * 14)).off + 3, none⟩ = some (.int .i64 o.f3) ∧ w'.cell? ⟨(ad.add (k * 14)).block, (ad.add (k * 14)).off + 4, none⟩ = some (.string o.f4.f0) ∧ w'.cell? ⟨(ad.add (k * 14)).block, (ad.add (k * 14)).off + 5, none⟩ = some (.int .i64 o.f4.f1.f0) ∧ w'.cell? ⟨(ad.add (k * 14)).block, (ad.add (k * 14)).off + 6, none⟩ = some (.int .i64 o.f4.f1.f1) ∧ w'.cell? ⟨(ad.add (k * 14)).block, (ad.add (k * 14)).off + 7, none⟩ = some (.string o.f4.f1.f2) ∧ w'.cell? ⟨(ad.add (k * 14)).block, (ad.add (k * 14)).off + 8, none⟩ = some (.slice A8 o.f4.f1.f3.length c8) ∧ w'.cell? ⟨(ad.add (k * 14)).block, (ad.add (k * 14)).off + 9, none⟩ = some (.slice A9 o.f4.f2.length c9) ∧ w'.cell? ⟨(ad.add (k * 14)).block, (ad.add (k * 14)).off + 10, none⟩ = some (.slice A10 o.f5.length c10) ∧ w'.cell? ⟨(ad.add (k * 14)).block, (ad.add (k * 14)).off + 11, none⟩ = some (.slice A11 o.f6.length c11) ∧ w'.cell? ⟨(ad.add (k * 14)).block, (ad.add (k * 14)).off + 12, none⟩ = some (.int .i64 o.f7.f0) ∧ w'.cell? ⟨(ad.add (k * 14)).block, (ad.add (k * 14)).off + 13, none⟩ = some (.slice A13 o.f7.f1.length c13))) (ds := [12]) #[false, false, false, false, false, false, false, false, false, false, false, false, false, false] (by kernel_rfl) rfl rfl ⟨(HT.out.cell' ix HL.out hix), e0, e1, e2, e3, e4, e5, e6, e7, e8, e9, e10, e11, e12, e13⟩ (fun hHeld => ?_)
            replace HT : Hid (Many wr.drew w.heap.size L ow os (.slice (some ⟨gl, 0, none⟩) m cl) (3 * m + partsOs (l.take k))) := HT.out.below (Below.refl _ _).drew
            replace HB : Hid (Below w.heap.size w wr.drew) := HB.out.drew
            generalize wr.drew = W5 at hHeld HT HB ⊢
            have hlo : ∀ j, ow ix j ≠ 0 → w.heap.size ≤ j := fun j hj => ((HT.out.pr ix (by rw [HL.out]; exact hix)).lo j hj).1
            have HPM := Lib.hid (playM HT.out HB.out (i := ix) (by rw [HL.out]; exact hix) (by omega) o A8 c8 A9 c9 A10 c10 A11 c11 A13 c13 (Away.of_C hC8 HB.out hlo) hl8 (Away.of_C hC9 HB.out hlo) hl9 (Away.of_C hC10 HB.out hlo) hl10 (Away.of_C hC11 HB.out hlo) hl11 (Away.of_C hC13 HB.out hlo) hl13 (by omega) (N := 3 * m + partsOs (l.take (k + 1))) (by rw [HST.out]; omega))
            clear hlo hl8 hC8 hl9 hC9 hl10 hC10 hl11 hC11 hl13 hC13 hpt hpo
            refine pure_ (i := 0) (N := some 101) (v := ?_) (a' := ?_) #[true, false, false, false, false, false, false, false, false, false, false, false, false, false] rfl rfl (by kernel_rfl) (fun _ _ _ h => h) (Or.inl ⟨by rfl, ?_⟩) ?_ ?_
            rotate_left
            · intro w'
              go_simp
              with_reducible rfl
            rotate_left
            · simp only [Act.put, List.setIfInBounds_toArray, List.set_cons_zero, List.set_cons_succ]
              rfl
            refine pure_ (i := 1) (N := some 102) (v := ?_) (a' := ?_) #[true, true, false, false, false, false, false, false, false, false, false, false, false, false] rfl rfl (by kernel_rfl) (fun _ _ _ h => h) (Or.inl ⟨by rfl, ?_⟩) ?_ ?_
            rotate_left
            · intro w'
              go_simp
              with_reducible rfl
            rotate_left
            · simp only [Act.put, List.setIfInBounds_toArray, List.set_cons_zero, List.set_cons_succ]
              rfl
            refine pure_ (i := 2) (N := some 103) (v := ?_) (a' := ?_) #[true, true, true, false, false, false, false, false, false, false, false, false, false, false] rfl rfl (by kernel_rfl) (fun _ _ _ h => h) (Or.inl ⟨by rfl, ?_⟩) ?_ ?_
            rotate_left
            · intro w'
              go_simp
              with_reducible rfl
            rotate_left
            · simp only [Act.put, List.setIfInBounds_toArray, List.set_cons_zero, List.set_cons_succ]
              rfl
            refine pure_ (i := 3) (N := some 104) (v := ?_) (a' := ?_) #[true, true, true, true, false, false, false, false, false, false, false, false, false, false] rfl rfl (by kernel_rfl) (fun _ _ _ h => h) (Or.inl ⟨by rfl, ?_⟩) ?_ ?_
            rotate_left
            · intro w'
              go_simp
              with_reducible rfl
            rotate_left
            · simp only [Act.put, List.setIfInBounds_toArray, List.set_cons_zero, List.set_cons_succ]
              rfl
            refine pure_ (i := 4) (N := some 105) (v := ?_) (a' := ?_) #[true, true, true, true, true, false, false, false, false, false, false, false, false, false] rfl rfl (by kernel_rfl) (fun _ _ _ h => h) (Or.inl ⟨by rfl, ?_⟩) ?_ ?_
            rotate_left
            · intro w'
              go_simp
              with_reducible rfl
            rotate_left
            · simp only [Act.put, List.setIfInBounds_toArray, List.set_cons_zero, List.set_cons_succ]
              rfl
            refine pure_ (i := 5) (N := some 106) (v := ?_) (a' := ?_) #[true, true, true, true, true, true, false, false, false, false, false, false, false, false] rfl rfl (by kernel_rfl) (fun _ _ _ h => h) (Or.inl ⟨by rfl, ?_⟩) ?_ ?_
            rotate_left
            · intro w'
              go_simp
              with_reducible rfl
            rotate_left
            · simp only [Act.put, List.setIfInBounds_toArray, List.set_cons_zero, List.set_cons_succ]
              rfl
            refine pure_ (i := 6) (N := some 107) (v := ?_) (a' := ?_) #[true, true, true, true, true, true, true, false, false, false, false, false, false, false] rfl rfl (by kernel_rfl) (fun _ _ _ h => h) (Or.inl ⟨by rfl, ?_⟩) ?_ ?_
            rotate_left
            · intro w'
              go_simp
              with_reducible rfl
            rotate_left
            · simp only [Act.put, List.setIfInBounds_toArray, List.set_cons_zero, List.set_cons_succ]
              rfl
            refine take_ (i := 7) (N := some 108) (v := ?_) (a' := ?_) #[true, true, true, true, true, true, true, true, false, false, false, false, false, false] rfl rfl (by kernel_rfl) (fun _ _ _ h => h) (Or.inl ⟨by rfl, ?_⟩) hHeld ?_ ?_
            rotate_left
            · rintro w' ⟨s0, s1, s2, s3, s4, s5, s6, s7, s8, s9, s10, s11, s12, s13, s14⟩
              go_simp
              with_reducible rfl
            rotate_left
            · simp only [Act.put, List.setIfInBounds_toArray, List.set_cons_zero, List.set_cons_succ]
              rfl
            refine pure_ (i := 8) (N := some 109) (v := ?_) (a' := ?_) #[true, true, true, true, true, true, true, true, true, false, false, false, false, false] rfl rfl (by kernel_rfl) (fun _ _ _ h => h) (Or.inl ⟨by rfl, ?_⟩) ?_ ?_
            rotate_left
            · intro w'
              go_simp
              with_reducible rfl
            rotate_left
            · simp only [Act.put, List.setIfInBounds_toArray, List.set_cons_zero, List.set_cons_succ]
              rfl
            refine pure_ (i := 9) (N := some 110) (v := ?_) (a' := ?_) #[true, true, true, true, true, true, true, true, true, true, false, false, false, false] rfl rfl (by kernel_rfl) (fun _ _ _ h => h) (Or.inl ⟨by rfl, ?_⟩) ?_ ?_
            rotate_left
            · intro w'
              go_simp
              with_reducible rfl
            rotate_left
            · simp only [Act.put, List.setIfInBounds_toArray, List.set_cons_zero, List.set_cons_succ]
              rfl
            refine pure_ (i := 10) (N := some 111) (v := ?_) (a' := ?_) #[true, true, true, true, true, true, true, true, true, true, true, false, false, false] rfl rfl (by kernel_rfl) (fun _ _ _ h => h) (Or.inl ⟨by rfl, ?_⟩) ?_ ?_
            rotate_left
            · intro w'
              go_simp
              with_reducible rfl
            rotate_left
            · simp only [Act.put, List.setIfInBounds_toArray, List.set_cons_zero, List.set_cons_succ]
              rfl
            refine take_ (i := 11) (N := some 112) (v := ?_) (a' := ?_) #[true, true, true, true, true, true, true, true, true, true, true, true, false, false] rfl rfl (by kernel_rfl) (fun _ _ _ h => h) (Or.inl ⟨by rfl, ?_⟩) hHeld ?_ ?_
            rotate_left
            · rintro w' ⟨s0, s1, s2, s3, s4, s5, s6, s7, s8, s9, s10, s11, s12, s13, s14⟩
              go_simp
              with_reducible rfl
            rotate_left
            · simp only [Act.put, List.setIfInBounds_toArray, List.set_cons_zero, List.set_cons_succ]
              rfl
            refine last_ (i := 12) (N := some 113) #[true, true, true, true, true, true, true, true, true, true, true, true, true, false] rfl rfl (by kernel_rfl) (by decide) (fun K hK => ?_)
            refine goes_ Try.func28 (by kernel_rfl) rfl #[.pointer (some ⟨L.getD ix 0, 0, none⟩), .agg #[.int .i64 o.f0, .int .i64 o.f1, .int .i64 o.f2, .int .i64 o.f3, .string o.f4.f0, .int .i64 o.f4.f1.f0, .int .i64 o.f4.f1.f1, .string o.f4.f1.f2, .slice A8 o.f4.f1.f3.length c8, .slice A9 o.f4.f2.length c9, .slice A10 o.f5.length c10, .slice A11 o.f6.length c11, .int .i64 o.f7.f0, .slice A13 o.f7.f1.length c13]] (by rfl) rfl rfl (by simp only [List.map_toArray, List.map_cons, List.map_nil]; rfl) ?_
            refine HPM.out.mono ?_
            rintro e w6 ⟨rfl, ow6, HT6, HB6, hk6⟩
            refine ⟨_, rfl, ?_⟩
            refine hK.out _ _ ?_
            clear hK K hk6 HPM HT HB hHeld
            refine norm_ (a' := ?_) ?_ ?_
            rotate_left
            · show Act.put _ (some 113) _ = _
              simp only [Act.put, List.setIfInBounds_toArray, List.set_cons_zero, List.set_cons_succ]
              rfl
            refine pure_ (i := 13) (N := some 114) (v := ?_) (a' := ?_) #[true, true, true, true, true, true, true, true, true, true, true, true, true, true] rfl rfl (by kernel_rfl) (fun _ _ _ h => h) (Or.inl ⟨by rfl, ?_⟩) ?_ ?_
            rotate_left
            · intro w'
              go_simp
              with_reducible rfl
            rotate_left
            · simp only [Act.put, List.setIfInBounds_toArray, List.set_cons_zero, List.set_cons_succ]
              rfl
            refine done_ (by kernel_rfl) ?_
            go_wp2
            go_roundw
            case rel => exact ⟨ow6, k + 1, by omega, by go_num, HT6, HB6⟩
            case measure => simp [intOf]; omega
        have i0 : (0 : Int) ≤ (k : Int) := by omega
        have i1 : (k : Int) < (q : Int) + 2 := by omega
        have i9 : (k : Int) < (m : Int) := by omega
        have i2 : (k : Int) ≤ 70 := by omega
        obtain ⟨key, hcv⟩ : ∃ key, (convert 72 9 (.slice (some ⟨wr.heap.size, 0, none⟩) 2 2)).run Try.prog (wr.alloc (.cells #[.int .u8 107, .int .u8 (k : Int)] 5)) = .ok (.string key) (wr.alloc (.cells #[.int .u8 107, .int .u8 (k : Int)] 5)) := ⟨_, run_convert_bytes_arg _ 72 5 Try.underlying72 Try.underlying5 wr.heap.size 0 2 2 [107, (k : Int)] rfl (fun i hi => by
          have hb := blk_new wr (.cells #[.int .u8 107, .int .u8 (k : Int)] 5)
          match i, hi with
          | 0, _ => exact blk_at hb 0 rfl
          | 1, _ => exact blk_at hb 1 rfl) 9 Try.underlying9⟩
        go_upto_region 15 with (fail)
        clear hcv
        have HX2 : Hid (((wr.alloc (.cells #[.int .u8 107, .int .u8 (k : Int)] 5)).alloc (.cells #[.string key, .int .i64 0, .int .i64 0, .string ⟨#[]⟩, .slice none 0 0, .slice none 0 0] 45)).heap[wr.heap.size + 1]? = some (.cells #[.string key, .int .i64 0, .int .i64 0, .string ⟨#[]⟩, .slice none 0 0, .slice none 0 0] 45 (0, 0))) := by
          have := blk_new (wr.alloc (.cells #[.int .u8 107, .int .u8 (k : Int)] 5)) (.cells #[.string key, .int .i64 0, .int .i64 0, .string ⟨#[]⟩, .slice none 0 0, .slice none 0 0] 45)
          rw [World.size_alloc] at this
          exact this
        have HBa : Below wr.heap.size wr ((wr.alloc (.cells #[.int .u8 107, .int .u8 (k : Int)] 5)).alloc (.cells #[.string key, .int .i64 0, .int .i64 0, .string ⟨#[]⟩, .slice none 0 0, .slice none 0 0] 45)) := ((Below.refl _ _).alloc (Nat.le_refl _) _).alloc (by simp) _
        have HT2 : Hid (Many ((wr.alloc (.cells #[.int .u8 107, .int .u8 (k : Int)] 5)).alloc (.cells #[.string key, .int .i64 0, .int .i64 0, .string ⟨#[]⟩, .slice none 0 0, .slice none 0 0] 45)) w.heap.size L ow os (.slice (some ⟨gl, 0, none⟩) m cl) (3 * k)) := HT.out.below HBa
        have HB2 : Hid (Below w.heap.size w ((wr.alloc (.cells #[.int .u8 107, .int .u8 (k : Int)] 5)).alloc (.cells #[.string key, .int .i64 0, .int .i64 0, .string ⟨#[]⟩, .slice none 0 0, .slice none 0 0] 45))) := HB.out.trans (HBa.mono HB.out.size)
        have HFR : Hid (ow k (wr.heap.size + 1) = 0) := HT.out.free (by rw [HL.out]; exact hlt) _ (by omega)
        clear HT HB HBa
        generalize ((wr.alloc (.cells #[.int .u8 107, .int .u8 (k : Int)] 5)).alloc (.cells #[.string key, .int .i64 0, .int .i64 0, .string ⟨#[]⟩, .slice none 0 0, .slice none 0 0] 45)) = w3 at *
        have j0 : IntKind.i64.wrap (3 * (k : Int)) = 3 * (k : Int) := IntWalk.i64_in _ (by omega)
        have j1 : IntKind.i64.wrap (1 + 3 * (k : Int)) = 1 + 3 * (k : Int) := IntWalk.i64_in _ (by omega)
        refine start_ (n := 14) (S := (fun w' => w'.cell? ⟨gl, k, none⟩ = some (.pointer (some ⟨L.getD k 0, 0, none⟩)) ∧ w'.cell? ⟨wr.heap.size + 1, 0, none⟩ = some (.string key) ∧ w'.cell? ⟨wr.heap.size + 1, 1, none⟩ = some (.int .i64 0) ∧ w'.cell? ⟨wr.heap.size + 1, 2, none⟩ = some (.int .i64 0) ∧ w'.cell? ⟨wr.heap.size + 1, 3, none⟩ = some (.string ⟨#[]⟩) ∧ w'.cell? ⟨wr.heap.size + 1, 4, none⟩ = some (.slice none 0 0) ∧ w'.cell? ⟨wr.heap.size + 1, 5, none⟩ = some (.slice none 0 0))) (ds := []) #[false, false, false, false, false, false, false, false, false, false, false, false, false, false] (by kernel_rfl) rfl rfl ⟨(HT2.out.cell' k HL.out hlt), blk_at HX2.out 0 rfl, blk_at HX2.out 1 rfl, blk_at HX2.out 2 rfl, blk_at HX2.out 3 rfl, blk_at HX2.out 4 rfl, blk_at HX2.out 5 rfl⟩ (fun hHeld => ?_)
        have HT3 : Hid (Many w3.drew w.heap.size L ow os (.slice (some ⟨gl, 0, none⟩) m cl) (3 * k)) := HT2.out.below (Below.refl _ _).drew
        have HX3 : Hid (w3.drew.heap[wr.heap.size + 1]? = some (.cells #[.string key, .int .i64 0, .int .i64 0, .string ⟨#[]⟩, .slice none 0 0, .slice none 0 0] 45 (0, 0))) := HX2.out
        have HB3 : Hid (Below w.heap.size w w3.drew) := HB2.out.drew
        clear HT2 HX2 HB2
        generalize w3.drew = W3 at hHeld HT3 HX3 HB3 ⊢
        have HPM := Lib.hid (playM1 HT3.out HB3.out (i := k) (by rw [HL.out]; exact hlt) (by omega) 2 0 (1 + 3 * (k : Int)) (k : Int) key (N := 3 * k + 2) (Nat.le_refl _))
        refine pure_ (i := 0) (N := some 70) (v := ?_) (a' := ?_) #[true, false, false, false, false, false, false, false, false, false, false, false, false, false] rfl rfl (by kernel_rfl) (fun _ _ _ h => h) (Or.inl ⟨by rfl, ?_⟩) ?_ ?_
        rotate_left
        · intro w'
          go_simp
          with_reducible rfl
        rotate_left
        · simp only [Act.put, List.setIfInBounds_toArray, List.set_cons_zero, List.set_cons_succ]
          rfl
        refine pure_ (i := 1) (N := some 71) (v := ?_) (a' := ?_) #[true, true, false, false, false, false, false, false, false, false, false, false, false, false] rfl rfl (by kernel_rfl) (fun _ _ _ h => h) (Or.inl ⟨by rfl, ?_⟩) ?_ ?_
        rotate_left
        · intro w'
          go_simp
          with_reducible rfl
        rotate_left
        · simp only [Act.put, List.setIfInBounds_toArray, List.set_cons_zero, List.set_cons_succ]
          rfl
        refine pure_ (i := 2) (N := some 72) (v := ?_) (a' := ?_) #[true, true, true, false, false, false, false, false, false, false, false, false, false, false] rfl rfl (by kernel_rfl) (fun _ _ _ h => h) (Or.inl ⟨by rfl, ?_⟩) ?_ ?_
        rotate_left
        · intro w'
          go_simp
          with_reducible rfl
        rotate_left
        · simp only [Act.put, List.setIfInBounds_toArray, List.set_cons_zero, List.set_cons_succ]
          rfl
        refine take_ (i := 3) (N := some 73) (v := ?_) (a' := ?_) #[true, true, true, true, false, false, false, false, false, false, false, false, false, false] rfl rfl (by kernel_rfl) (fun _ _ _ h => h) (Or.inl ⟨by rfl, ?_⟩) hHeld ?_ ?_
        rotate_left
        · rintro w' ⟨s0, s1, s2, s3, s4, s5, s6⟩
          go_simp
          with_reducible rfl
        rotate_left
        · simp only [Act.put, List.setIfInBounds_toArray, List.set_cons_zero, List.set_cons_succ]
          rfl
        refine pure_ (i := 4) (N := some 74) (v := ?_) (a' := ?_) #[true, true, true, true, true, false, false, false, false, false, false, false, false, false] rfl rfl (by kernel_rfl) (fun _ _ _ h => h) (Or.inl ⟨by rfl, ?_⟩) ?_ ?_
        rotate_left
        · intro w'
          go_simp
          with_reducible rfl
        rotate_left
        · simp only [Act.put, List.setIfInBounds_toArray, List.set_cons_zero, List.set_cons_succ]
          rfl
        refine pure_ (i := 5) (N := some 75) (v := ?_) (a' := ?_) #[true, true, true, true, true, true, false, false, false, false, false, false, false, false] rfl rfl (by kernel_rfl) (fun _ _ _ h => h) (Or.inl ⟨by rfl, ?_⟩) ?_ ?_
        rotate_left
        · intro w'
          go_simp
          with_reducible rfl
        rotate_left
        · simp only [Act.put, List.setIfInBounds_toArray, List.set_cons_zero, List.set_cons_succ]
          rfl
        refine pure_ (i := 6) (N := some 76) (v := ?_) (a' := ?_) #[true, true, true, true, true, true, true, false, false, false, false, false, false, false] rfl rfl (by kernel_rfl) (fun _ _ _ h => h) (Or.inl ⟨by rfl, ?_⟩) ?_ ?_
        rotate_left
        · intro w'
          go_simp
          with_reducible rfl
        rotate_left
        · simp only [Act.put, List.setIfInBounds_toArray, List.set_cons_zero, List.set_cons_succ]
          rfl
        refine pure_ (i := 7) (N := some 77) (v := ?_) (a' := ?_) #[true, true, true, true, true, true, true, true, false, false, false, false, false, false] rfl rfl (by kernel_rfl) (fun _ _ _ h => h) (Or.inl ⟨by rfl, ?_⟩) ?_ ?_
        rotate_left
        · intro w'
          go_simp
          with_reducible rfl
        rotate_left
        · simp only [Act.put, List.setIfInBounds_toArray, List.set_cons_zero, List.set_cons_succ]
          rfl
        refine pure_ (i := 8) (N := some 78) (v := ?_) (a' := ?_) #[true, true, true, true, true, true, true, true, true, false, false, false, false, false] rfl rfl (by kernel_rfl) (fun _ _ _ h => h) (Or.inl ⟨by rfl, ?_⟩) ?_ ?_
        rotate_left
        · intro w'
          go_simp
          with_reducible rfl
        rotate_left
        · simp only [Act.put, List.setIfInBounds_toArray, List.set_cons_zero, List.set_cons_succ]
          rfl
        refine take_ (i := 9) (N := some 79) (v := ?_) (a' := ?_) #[true, true, true, true, true, true, true, true, true, true, false, false, false, false] rfl rfl (by kernel_rfl) (fun _ _ _ h => h) (Or.inl ⟨by rfl, ?_⟩) hHeld ?_ ?_
        rotate_left
        · rintro w' ⟨s0, s1, s2, s3, s4, s5, s6⟩
          go_simp
          with_reducible rfl
        rotate_left
        · simp only [Act.put, List.setIfInBounds_toArray, List.set_cons_zero, List.set_cons_succ]
          rfl
        refine one_ (i := 10) (N := some 80) #[true, true, true, true, true, true, true, true, true, true, true, false, false, false] rfl rfl (by kernel_rfl) (by decide) (fun K hK => ?_)
        refine value_ (w1 := (W3.alloc (.cells (keyCells key) 45))) (v := .slice (some ⟨W3.heap.size, 0, none⟩) 1 1) (by rfl) rfl (by go_simp; rfl) ?_
        have HX4 : Hid ((W3.alloc (.cells (keyCells key) 45)).heap[wr.heap.size + 1]? = some (.cells #[.string key, .int .i64 0, .int .i64 0, .string ⟨#[]⟩, .slice none 0 0, .slice none 0 0] 45 (0, 0))) := blk_alloc HX3.out _
        have HT4 : Hid (Many (W3.alloc (.cells (keyCells key) 45)) w.heap.size L ow os (.slice (some ⟨gl, 0, none⟩) m cl) (3 * k)) := HT3.out.below ((Below.refl _ _).alloc (Nat.le_refl _) _)
        refine hK.out _ _ ⟨(HT4.out.cell' k HL.out hlt), blk_at HX4.out 0 rfl, blk_at HX4.out 1 rfl, blk_at HX4.out 2 rfl, blk_at HX4.out 3 rfl, blk_at HX4.out 4 rfl, blk_at HX4.out 5 rfl⟩ (fun hHeld => ?_)
        clear hK K HT4
        refine norm_ (a' := ?_) ?_ ?_
        rotate_left
        · show Act.put _ (some 80) _ = _
          simp only [Act.put, List.setIfInBounds_toArray, List.set_cons_zero, List.set_cons_succ]
          rfl
        refine pure_ (i := 11) (N := some 81) (v := ?_) (a' := ?_) #[true, true, true, true, true, true, true, true, true, true, true, true, false, false] rfl rfl (by kernel_rfl) (fun _ _ _ h => h) (Or.inl ⟨by rfl, ?_⟩) ?_ ?_
        rotate_left
        · intro w'
          go_simp
          with_reducible rfl
        rotate_left
        · simp only [Act.put, List.setIfInBounds_toArray, List.set_cons_zero, List.set_cons_succ]
          rfl
        refine one_ (i := 12) (N := some 82) #[true, true, true, true, true, true, true, true, true, true, true, true, true, false] rfl rfl (by kernel_rfl) (by decide) (fun K hK => ?_)
        refine goes_ Try.func28 (by kernel_rfl) rfl #[.pointer (some ⟨L.getD k 0, 0, none⟩), .agg #[.int .i64 2, .int .i64 0, .int .i64 0, .int .i64 (1 + 3 * (k : Int)), .string ⟨#[]⟩, .int .i64 0, .int .i64 0, .string ⟨#[]⟩, .slice none 0 0, .slice none 0 0, .slice none 0 0, .slice (some ⟨W3.heap.size, 0, none⟩) 1 1, .int .i64 (k : Int), .slice none 0 0]] (by rfl) rfl rfl (by simp only [List.map_toArray, List.map_cons, List.map_nil]; rfl) ?_
        refine HPM.out.mono ?_
        rintro e w5 ⟨rfl, ow5, HT5, HB5, hk5⟩
        refine ⟨_, rfl, ?_⟩
        have HX5 : Hid (w5.heap[wr.heap.size + 1]? = some (.cells #[.string key, .int .i64 0, .int .i64 0, .string ⟨#[]⟩, .slice none 0 0, .slice none 0 0] 45 (0, 0))) := (hk5.out _ (blk_lt HX4.out) HFR.out).trans HX4.out
        refine hK.out _ _ ⟨(HT5.out.cell' k HL.out hlt), blk_at HX5.out 0 rfl, blk_at HX5.out 1 rfl, blk_at HX5.out 2 rfl, blk_at HX5.out 3 rfl, blk_at HX5.out 4 rfl, blk_at HX5.out 5 rfl⟩ (fun hHeld => ?_)
        clear hK K hk5 HX4 HX3 HT3 HB3 HPM
        refine norm_ (a' := ?_) ?_ ?_
        rotate_left
        · show Act.put _ (some 82) _ = _
          simp only [Act.put, List.setIfInBounds_toArray, List.set_cons_zero, List.set_cons_succ]
          rfl
        refine pure_ (i := 13) (N := some 10) (v := ?_) (a' := ?_) #[true, true, true, true, true, true, true, true, true, true, true, true, true, true] rfl rfl (by kernel_rfl) (fun _ _ _ h => h) (Or.inl ⟨by rfl, ?_⟩) ?_ ?_
        rotate_left
        · intro w'
          go_simp
          with_reducible rfl
        rotate_left
        · simp only [Act.put, List.setIfInBounds_toArray, List.set_cons_zero, List.set_cons_succ]
          rfl
        refine done_ (by kernel_rfl) ?_
        go_wp2
        refine start_ (n := 12) (S := (fun w' => w'.cell? ⟨gl, k, none⟩ = some (.pointer (some ⟨L.getD k 0, 0, none⟩)) ∧ w'.cell? ⟨wr.heap.size + 1, 0, none⟩ = some (.string key) ∧ w'.cell? ⟨wr.heap.size + 1, 1, none⟩ = some (.int .i64 0) ∧ w'.cell? ⟨wr.heap.size + 1, 2, none⟩ = some (.int .i64 0) ∧ w'.cell? ⟨wr.heap.size + 1, 3, none⟩ = some (.string ⟨#[]⟩) ∧ w'.cell? ⟨wr.heap.size + 1, 4, none⟩ = some (.slice none 0 0) ∧ w'.cell? ⟨wr.heap.size + 1, 5, none⟩ = some (.slice none 0 0))) (ds := [9]) #[false, false, false, false, false, false, false, false, false, false, false, false] (by kernel_rfl) rfl rfl ⟨(HT5.out.cell' k HL.out hlt), blk_at HX5.out 0 rfl, blk_at HX5.out 1 rfl, blk_at HX5.out 2 rfl, blk_at HX5.out 3 rfl, blk_at HX5.out 4 rfl, blk_at HX5.out 5 rfl⟩ (fun hHeld => ?_)
        replace HT5 : Hid (Many w5.drew w.heap.size L ow5 os (.slice (some ⟨gl, 0, none⟩) m cl) (3 * k + 2)) := HT5.out.below (Below.refl _ _).drew
        replace HB5 : Hid (Below w.heap.size w w5.drew) := HB5.out.drew
        clear HX5
        generalize w5.drew = W5 at hHeld HT5 HB5 ⊢
        have HPM := Lib.hid (playM0 HT5.out HB5.out (i := k) (by rw [HL.out]; exact hlt) (by omega) 1 1 0 0 key (N := 3 * (k + 1)) (by omega))
        refine pure_ (i := 0) (N := some 83) (v := ?_) (a' := ?_) #[true, false, false, false, false, false, false, false, false, false, false, false] rfl rfl (by kernel_rfl) (fun _ _ _ h => h) (Or.inl ⟨by rfl, ?_⟩) ?_ ?_
        rotate_left
        · intro w'
          go_simp
          with_reducible rfl
        rotate_left
        · simp only [Act.put, List.setIfInBounds_toArray, List.set_cons_zero, List.set_cons_succ]
          rfl
        refine pure_ (i := 1) (N := some 84) (v := ?_) (a' := ?_) #[true, true, false, false, false, false, false, false, false, false, false, false] rfl rfl (by kernel_rfl) (fun _ _ _ h => h) (Or.inl ⟨by rfl, ?_⟩) ?_ ?_
        rotate_left
        · intro w'
          go_simp
          with_reducible rfl
        rotate_left
        · simp only [Act.put, List.setIfInBounds_toArray, List.set_cons_zero, List.set_cons_succ]
          rfl
        refine pure_ (i := 2) (N := some 85) (v := ?_) (a' := ?_) #[true, true, true, false, false, false, false, false, false, false, false, false] rfl rfl (by kernel_rfl) (fun _ _ _ h => h) (Or.inl ⟨by rfl, ?_⟩) ?_ ?_
        rotate_left
        · intro w'
          go_simp
          with_reducible rfl
        rotate_left
        · simp only [Act.put, List.setIfInBounds_toArray, List.set_cons_zero, List.set_cons_succ]
          rfl
        refine pure_ (i := 3) (N := some 86) (v := ?_) (a' := ?_) #[true, true, true, true, false, false, false, false, false, false, false, false] rfl rfl (by kernel_rfl) (fun _ _ _ h => h) (Or.inl ⟨by rfl, ?_⟩) ?_ ?_
        rotate_left
        · intro w'
          go_simp
          with_reducible rfl
        rotate_left
        · simp only [Act.put, List.setIfInBounds_toArray, List.set_cons_zero, List.set_cons_succ]
          rfl
        refine pure_ (i := 4) (N := some 87) (v := ?_) (a' := ?_) #[true, true, true, true, true, false, false, false, false, false, false, false] rfl rfl (by kernel_rfl) (fun _ _ _ h => h) (Or.inl ⟨by rfl, ?_⟩) ?_ ?_
        rotate_left
        · intro w'
          go_simp
          with_reducible rfl
        rotate_left
        · simp only [Act.put, List.setIfInBounds_toArray, List.set_cons_zero, List.set_cons_succ]
          rfl
        refine pure_ (i := 5) (N := some 88) (v := ?_) (a' := ?_) #[true, true, true, true, true, true, false, false, false, false, false, false] rfl rfl (by kernel_rfl) (fun _ _ _ h => h) (Or.inl ⟨by rfl, ?_⟩) ?_ ?_
        rotate_left
        · intro w'
          go_simp
          with_reducible rfl
        rotate_left
        · simp only [Act.put, List.setIfInBounds_toArray, List.set_cons_zero, List.set_cons_succ]
          rfl
        refine take_ (i := 6) (N := some 89) (v := ?_) (a' := ?_) #[true, true, true, true, true, true, true, false, false, false, false, false] rfl rfl (by kernel_rfl) (fun _ _ _ h => h) (Or.inl ⟨by rfl, ?_⟩) hHeld ?_ ?_
        rotate_left
        · rintro w' ⟨s0, s1, s2, s3, s4, s5, s6⟩
          go_simp
          with_reducible rfl
        rotate_left
        · simp only [Act.put, List.setIfInBounds_toArray, List.set_cons_zero, List.set_cons_succ]
          rfl
        refine take_ (i := 7) (N := some 90) (v := ?_) (a' := ?_) #[true, true, true, true, true, true, true, true, false, false, false, false] rfl rfl (by kernel_rfl) (fun _ _ _ h => h) (Or.inl ⟨by rfl, ?_⟩) hHeld ?_ ?_
        rotate_left
        · rintro w' ⟨s0, s1, s2, s3, s4, s5, s6⟩
          go_simp
          with_reducible rfl
        rotate_left
        · simp only [Act.put, List.setIfInBounds_toArray, List.set_cons_zero, List.set_cons_succ]
          rfl
        refine pure_ (i := 8) (N := some 91) (v := ?_) (a' := ?_) #[true, true, true, true, true, true, true, true, true, false, false, false] rfl rfl (by kernel_rfl) (fun _ _ _ h => h) (Or.inl ⟨by rfl, ?_⟩) ?_ ?_
        rotate_left
        · intro w'
          go_simp
          with_reducible rfl
        rotate_left
        · simp only [Act.put, List.setIfInBounds_toArray, List.set_cons_zero, List.set_cons_succ]
          rfl
        refine last_ (i := 9) (N := some 92) #[true, true, true, true, true, true, true, true, true, true, false, false] rfl rfl (by kernel_rfl) (by decide) (fun K hK => ?_)
        refine goes_ Try.func28 (by kernel_rfl) rfl #[.pointer (some ⟨L.getD k 0, 0, none⟩), .agg #[.int .i64 1, .int .i64 0, .int .i64 1, .int .i64 0, .string key, .int .i64 0, .int .i64 0, .string ⟨#[]⟩, .slice none 0 0, .slice none 0 0, .slice none 0 0, .slice none 0 0, .int .i64 0, .slice none 0 0]] (by rfl) rfl rfl (by simp only [List.map_toArray, List.map_cons, List.map_nil]; rfl) ?_
        refine HPM.out.mono ?_
        rintro e w6 ⟨rfl, ow6, HT6, HB6, hk6⟩
        refine ⟨_, rfl, ?_⟩
        refine hK.out _ _ ?_
        clear hK K hk6 HPM HT5 HB5 hHeld
        refine norm_ (a' := ?_) ?_ ?_
        rotate_left
        · show Act.put _ (some 92) _ = _
          simp only [Act.put, List.setIfInBounds_toArray, List.set_cons_zero, List.set_cons_succ]
          rfl
        refine pure_ (i := 10) (N := some 93) (v := ?_) (a' := ?_) #[true, true, true, true, true, true, true, true, true, true, true, false] rfl rfl (by kernel_rfl) (fun _ _ _ h => h) (Or.inl ⟨by rfl, ?_⟩) ?_ ?_
        rotate_left
        · intro w'
          go_simp
          with_reducible rfl
        rotate_left
        · simp only [Act.put, List.setIfInBounds_toArray, List.set_cons_zero, List.set_cons_succ]
          rfl
        refine pure_ (i := 11) (N := some 94) (v := ?_) (a' := ?_) #[true, true, true, true, true, true, true, true, true, true, true, true] rfl rfl (by kernel_rfl) (fun _ _ _ h => h) (Or.inl ⟨by rfl, ?_⟩) ?_ ?_
        rotate_left
        · intro w'
          go_simp
          with_reducible rfl
        rotate_left
        · simp only [Act.put, List.setIfInBounds_toArray, List.set_cons_zero, List.set_cons_succ]
          rfl
        refine done_ (by kernel_rfl) ?_
        go_wp2
        go_roundw
        case rel => exact ⟨ow6, k + 1, by omega, by go_num, HT6, HB6⟩
        case measure => simp [intOf]; omega
    have i0 : (0 : Int) ≤ (k : Int) := by omega
    have i1 : (k : Int) < (q : Int) + 2 := by omega
    have i9 : (k : Int) < (m : Int) := by omega
    obtain ⟨Al, cl, hv⟩ := Kd.R_slice HT.out.sl
    rw [HL.out] at hv
    subst hv
    have HW1 : Hid ((wr.alloc (.cells #[.pointer none, .pointer none] 65)).heap[wr.heap.size]? = some (.cells #[.pointer none, .pointer none] 65 (0, 0))) := Lib.hid (blk_new wr _)
    have HT27 := Lib.hid (beginS (wr.alloc (.cells #[.pointer none, .pointer none] 65)) wr.heap.size k HW1.out w.heap.size (by have := HB.out.size; simp; omega))
    go_wp2_with (first
      | (go_at_call 27; refine HT27.out.mono ?_; rintro e w2 ⟨rfl, o2, hS, hO, hlo⟩
         obtain ⟨gb, q0'⟩ := hS.ptr
         have q0 := q0'
         have HS2 := Lib.hid hS
         have HO2 := Lib.hid hO
         have HLO := Lib.hid hlo
         have HB2 : Hid (Below w.heap.size w w2) := Lib.hid ((HB.out.alloc HB.out.size _).trans (hO.below HB.out.size (by have := HB.out.size; simp; omega)))
         clear hS hO hlo q0')
      | (at_builtin; refine Kd.R_append kp (w0 := w) w.heap.size rfl (.tmp 55) (.tmp 57) 71 62 (.pointer none) 8 rfl Try.underlying71 info62 rfl (by decide) (by decide) (.slice Al k cl) L wr.heap.size _ (fun j => os j ∨ w2.heap.size ≤ j) (fun _ => False) rfl rfl ?hp (fun _ hk => hk.elim) (fun _ hk => .inr hk) ?hO HB2.out ?hS ?hl ?_
         case hp => exact rfl
         case hO => exact Kd.R_mono (Kd.R_step HT.out.sl (fun j _ hlt => (HO2.out.block j (by simp; omega) (by omega)).trans (Below.heap_alloc _ _ _ hlt))) (fun _ hk => .inl hk)
         case hS => exact HB2.out.size
         case hl => rw [HL.out]; omega
         intro v1 w4 hO4 hB4 hg4 hat4
         have HT4 := Lib.hid (HT.out.add HO2.out (by rw [HL.out]; exact HS2.out) HLO.out (Below.refl _ _) hg4 hO4)
         have HB4 := Lib.hid hB4
         clear hO4 hB4 hg4 hat4))
    go_roundw
    case rel => exact ⟨L ++ [wr.heap.size], _, _, k + 1, by omega, by go_num, HT4, by rw [List.length_append, HL.out]; rfl, HB4⟩
    case measure => simp [intOf]; omega
end Go.Proofs.Ytomfknblehkocaa.C
