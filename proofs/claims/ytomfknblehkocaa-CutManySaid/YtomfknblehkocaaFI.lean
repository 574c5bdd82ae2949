/- Pairs told by their owner; CutTwo, walked. -/
import Derived.Test.YtomfknblehkocaaFH
namespace Go.Proofs.Ytomfknblehkocaa.C
open Go.RowKit Go.Proofs.YtomfknblehkocaaW.PrintWords Go.Proofs.YtomfknblehkocaaW.PrintLast
set_option linter.unusedVariables false
set_option linter.unusedSimpArgs false
def LegalN (mode back : Int) (n : Nat) : Prop := (mode = 1 ∨ mode = 2 ∨ mode = 3) ∧ 1 ≤ n ∧ -1 ≤ back ∧ ¬ (back = 0 ∧ n = 1)
/-- A pair of books at block g, whose blocks are those that ow tells. -/
def PairS (W : World) (base : Nat) (ow : Nat → Nat) (g : Nat) (mode back : Int) (n M : Nat) : Prop :=
  ∃ b r ob oR gb gr, ow = both ob oR ∧ PairAt W base ob oR g gb gr b r ∧ Rel b r mode back n ∧ Fit b mode back n M ∧ partsTs r.list ≤ M ∧ LegalN mode back n
def ind (g : Nat) : Nat → Nat := fun k => if k = g then 1 else 0
theorem ind_ne {g k : Nat} (h : k ≠ g) : ind g k = 0 := if_neg h
theorem Only.upd {g : Nat} {w w' : World} (h : Only g w w') : Upd (ind g) w (ind g) w' := ⟨h.os, h.tape, h.output, h.size, fun k _ h0 => h0, fun k hk h0 => h.block k hk (fun e => by rw [e] at h0; unfold ind at h0; simp at h0)⟩
theorem PairAt.kept {W W' : World} {base g gb gr : Nat} {ob oR : Nat → Nat} {b : Bk} {r : Rk} (h : PairAt W base ob oR g gb gr b r) {o2 o2' : Nat → Nat} (u : Upd o2 W o2' W') (hd : ∀ k, both ob oR k ≠ 0 → o2 k = 0) (hg : o2 g = 0) : PairAt W' base ob oR g gb gr b r :=
  ⟨(u.block g (blk_lt h.hg) hg).trans h.hg, h.hb.kept u (fun k hk => hd k (by unfold both; omega)), h.hr.kept u (fun k hk => hd k (by unfold both; omega)), h.ds, h.g0, Nat.le_trans h.bs u.size⟩
section
variable {W W' : World} {base g : Nat} {ow : Nat → Nat} {mode back : Int} {n M : Nat}
theorem PairS.kept (h : PairS W base ow g mode back n M) {o2 o2' : Nat → Nat} (u : Upd o2 W o2' W') (hd : ∀ k, ow k ≠ 0 → o2 k = 0) (hg : o2 g = 0) : PairS W' base ow g mode back n M := by
  obtain ⟨b, r, ob, oR, gb, gr, rfl, hp, h1, h2, h3, h4⟩ := h
  exact ⟨b, r, ob, oR, gb, gr, rfl, hp.kept u hd hg, h1, h2, h3, h4⟩
theorem PairS.mono (h : PairS W base ow g mode back n M) {M' : Nat} (hM : M ≤ M') : PairS W base ow g mode back n M' := by
  obtain ⟨b, r, ob, oR, gb, gr, rfl, hp, h1, h2, h3, h4⟩ := h
  exact ⟨b, r, ob, oR, gb, gr, rfl, hp, h1, h2.mono hM, Nat.le_trans h3 hM, h4⟩
theorem PairS.lo (h : PairS W base ow g mode back n M) : ∀ k, ow k ≠ 0 → base ≤ k ∧ k < W.heap.size := by
  obtain ⟨b, r, ob, oR, gb, gr, rfl, hp, h1, h2, h3, h4⟩ := h
  exact hp.lo
theorem PairS.self (h : PairS W base ow g mode back n M) : ow g = 0 := by
  obtain ⟨b, r, ob, oR, gb, gr, rfl, hp, h1, h2, h3, h4⟩ := h
  unfold both; rw [hp.g0.1, hp.g0.2]
theorem PairS.glt (h : PairS W base ow g mode back n M) : g < W.heap.size := by
  obtain ⟨b, r, ob, oR, gb, gr, rfl, hp, h1, h2, h3, h4⟩ := h
  exact blk_lt hp.hg
theorem PairS.ptr (h : PairS W base ow g mode back n M) : ∃ gb, W.cell? ⟨g, 0, none⟩ = some (.pointer (some ⟨gb, 0, none⟩)) := by
  obtain ⟨b, r, ob, oR, gb, gr, rfl, hp, h1, h2, h3, h4⟩ := h
  exact ⟨gb, blk_at hp.hg 0 rfl⟩
theorem playS (h : PairS W base ow g mode back n M) (hM : M ≤ 50000) (o : S47) (A8 : Option Addr) (c8 : Nat) (A9 : Option Addr) (c9 : Nat) (A10 : Option Addr) (c10 : Nat) (A11 : Option Addr) (c11 : Nat) (A13 : Option Addr) (c13 : Nat) (a8 : Away k42 ow W A8 o.f4.f1.f3) (l8 : o.f4.f1.f3.length ≤ c8) (a9 : Away (Kd.int .i64) ow W A9 o.f4.f2) (l9 : o.f4.f2.length ≤ c9) (a10 : Away k45 ow W A10 o.f5) (l10 : o.f5.length ≤ c10) (a11 : Away k45 ow W A11 o.f6) (l11 : o.f6.length ≤ c11) (a13 : Away k104 ow W A13 o.f7.f1) (l13 : o.f7.f1.length ≤ c13) (hpo : partsO o ≤ 20000) :
    Calls Try.prog 28 #[.pointer (some ⟨g, 0, none⟩), .agg #[.int .i64 o.f0, .int .i64 o.f1, .int .i64 o.f2, .int .i64 o.f3, .string o.f4.f0, .int .i64 o.f4.f1.f0, .int .i64 o.f4.f1.f1, .string o.f4.f1.f2, .slice A8 o.f4.f1.f3.length c8, .slice A9 o.f4.f2.length c9, .slice A10 o.f5.length c10, .slice A11 o.f6.length c11, .int .i64 o.f7.f0, .slice A13 o.f7.f1.length c13]] W fun e w' => e = .returned (.bool true) ∧ ∃ ow', PairS w' base ow' g mode back n (M + partsO o) ∧ Upd ow W ow' w' := by
  obtain ⟨b, r, ob, oR, gb, gr, rfl, hp, h1, h2, h3, h4⟩ := h
  refine (plays28 hp h1 h4.1 h4.2.1 h4.2.2.1 h4.2.2.2 h2 h3 hM o A8 c8 A9 c9 A10 c10 A11 c11 A13 c13 a8 l8 a9 l9 a10 l10 a11 l11 a13 l13 hpo).mono ?_
  rintro e w' ⟨he, b', r', ob', oR', hp', hu, hr', hf', ht'⟩
  exact ⟨he, _, ⟨b', r', ob', oR', gb, gr, rfl, hp', hr', hf', ht', h4⟩, hu⟩
end
/-- There, or nil. -/
def MayS (W : World) (base : Nat) (ow : Nat → Nat) (g : Nat) (mode back : Int) (n M : Nat) : Prop := PairS W base ow g mode back n M ∨ ((∀ k, ow k = 0) ∧ W.heap[g]? = some (.cells #[.pointer none, .pointer none] 65 (0, 0)))
theorem begin27 (w : World) (g : Nat) (hg : w.heap[g]? = some (.cells #[.pointer none, .pointer none] 65 (0, 0))) (mode ports back : Int) (base : Nat) (hb : base ≤ w.heap.size) :
    Calls Try.prog 27 #[.pointer (some ⟨g, 0, none⟩), .int .i64 mode, .int .i64 ports, .int .i64 back] w fun e w' => e = .returned (.bool true) ∧ ∃ ow, MayS w' base ow g mode back ports.toNat 0 ∧ Only g w w' ∧ ∀ k, ow k ≠ 0 → w.heap.size ≤ k := by
  by_cases hE : newE mode ports back = 0
  · refine (begin27_ok w g hg mode ports back base hb hE).mono ?_
    rintro e w' ⟨he, ob, oR, gb, gr, hp, hO, hl⟩
    obtain ⟨h1, h2, h3, h4⟩ := legal_rel hE
    exact ⟨he, both ob oR, .inl ⟨_, _, ob, oR, gb, gr, rfl, hp, Rel.new h2 h3 h4, Fit.new _ _ _, Nat.zero_le _, h1, h2, h3, h4⟩, hO, hl⟩
  · refine (begin27_no w g hg mode ports back hE).mono ?_
    rintro e w' ⟨he, h1, hO⟩
    exact ⟨he, fun _ => 0, .inr ⟨fun _ => rfl, h1⟩, hO, fun k hk => absurd rfl hk⟩
section
variable {W W' : World} {base g : Nat} {ow : Nat → Nat} {mode back : Int} {n M : Nat}
theorem MayS.kept (h : MayS W base ow g mode back n M) {o2 o2' : Nat → Nat} (u : Upd o2 W o2' W') (hd : ∀ k, ow k ≠ 0 → o2 k = 0) (hg : o2 g = 0) : MayS W' base ow g mode back n M := by
  rcases h with h | ⟨h1, h2⟩
  · exact .inl (h.kept u hd hg)
  · exact .inr ⟨h1, (u.block g (blk_lt h2) hg).trans h2⟩
theorem MayS.mono (h : MayS W base ow g mode back n M) {M' : Nat} (hM : M ≤ M') : MayS W base ow g mode back n M' := by
  rcases h with h | h
  · exact .inl (h.mono hM)
  · exact .inr h
theorem MayS.lo (h : MayS W base ow g mode back n M) : ∀ k, ow k ≠ 0 → base ≤ k ∧ k < W.heap.size := by
  rcases h with h | ⟨h, _⟩
  · exact h.lo
  · exact fun k hk => absurd (h k) hk
theorem MayS.glt (h : MayS W base ow g mode back n M) : g < W.heap.size := by
  rcases h with h | ⟨_, h⟩
  · exact h.glt
  · exact blk_lt h
end
/-- Two pairs. -/
structure Two (W : World) (base : Nat) (op oq : Nat → Nat) (gp gq : Nat) (mode : Int) (n : Nat) (other : Int) (m M : Nat) : Prop where
  hp : MayS W base op gp mode (-1) n M
  hq : MayS W base oq gq other 1 m M
  ds : ∀ k, op k ≠ 0 → oq k = 0
  a : op gq = 0
  b : oq gp = 0
section
variable {W W' : World} {base gp gq : Nat} {op oq : Nat → Nat} {mode other : Int} {n m M : Nat}
theorem Two.mono (h : Two W base op oq gp gq mode n other m M) {M' : Nat} (hM : M ≤ M') : Two W base op oq gp gq mode n other m M' := ⟨h.hp.mono hM, h.hq.mono hM, h.ds, h.a, h.b⟩
theorem Two.ds' (h : Two W base op oq gp gq mode n other m M) : ∀ k, oq k ≠ 0 → op k = 0 := fun k hk => by
  by_cases h1 : op k = 0
  · exact h1
  · exact absurd (h.ds k h1) hk
theorem Two.stepP (h : Two W base op oq gp gq mode n other m M) {o2 : Nat → Nat} {K : Nat} (hS : PairS W' base o2 gp mode (-1) n (M + K)) (u : Upd op W o2 W') : Two W' base o2 oq gp gq mode n other m (M + K) :=
  ⟨.inl hS, (h.hq.kept u h.ds' h.a).mono (Nat.le_add_right _ _), fun k hk => by
    by_cases h1 : oq k = 0
    · exact h1
    · exact absurd (u.same k (h.hq.lo k h1).2 (h.ds' k h1)) hk, u.same gq h.hq.glt h.a, h.b⟩
theorem Two.stepQ (h : Two W base op oq gp gq mode n other m M) {o2 : Nat → Nat} {K : Nat} (hS : PairS W' base o2 gq other 1 m (M + K)) (u : Upd oq W o2 W') : Two W' base op o2 gp gq mode n other m (M + K) :=
  ⟨(h.hp.kept u h.ds h.b).mono (Nat.le_add_right _ _), .inl hS, fun k hk => u.same k (h.hp.lo k hk).2 (h.ds k hk), h.a, u.same gp h.hp.glt h.b⟩
theorem Two.below (h : Two W base op oq gp gq mode n other m M) (hb : Below W.heap.size W W') : Two W' base op oq gp gq mode n other m M :=
  have u : Upd (fun _ => 0) W (fun _ => 0) W' := Upd.of_below hb (fun _ _ => rfl)
  ⟨h.hp.kept u (fun _ _ => rfl) rfl, h.hq.kept u (fun _ _ => rfl) rfl, h.ds, h.a, h.b⟩
end
set_option maxRecDepth 100000 in
set_option maxHeartbeats 4000000 in
theorem two_walk (mode ports other width : Int) (l : List S47) (A : Option Addr) (cc : Nat) (w : World) (hC : Kd.C k47 w A l.length l) (hc : l.length ≤ cc) (hl : ∀ y ∈ l, lenO y) :
    Calls Try.prog 8 #[.int .i64 mode, .int .i64 ports, .int .i64 other, .int .i64 width, .slice A l.length cc] w fun e w' => e = .returned (.bool true) ∧ Below w.heap.size w w' := by
  obtain ⟨n, hn⟩ : ∃ n, n = l.length := ⟨_, rfl⟩
  have Hn := Lib.hid hn
  have HC := Lib.hid hC
  have hmax : n ≤ 9223372036854775807 := by rw [hn]; exact Kd.C_max hC
  have HIN : Hid (∀ W : World, Below w.heap.size w W → Calls Try.prog 17 #[.slice A n cc] W fun e w' => InsideAns l e ∧ Hid (Below W.heap.size W w')) := fun W hW => by
    rw [hn]
    exact inside17 l A cc W (Kd.C_below hC hW) hl
  have HB0 : Hid (Below w.heap.size w ((w.alloc (.cells #[.pointer none, .pointer none] 65)).alloc (.cells #[.pointer none, .pointer none] 65))) := ((Below.refl _ _).alloc (Nat.le_refl _) _).alloc (by simp) _
  have HP := Lib.hid (begin27 ((w.alloc (.cells #[.pointer none, .pointer none] 65)).alloc (.cells #[.pointer none, .pointer none] 65)) w.heap.size (blk_alloc (blk_new w _) _) mode ports (-1) w.heap.size (by simp; omega))
  have HQ0 : Hid ((((w.alloc (.cells #[.pointer none, .pointer none] 65)).alloc (.cells #[.pointer none, .pointer none] 65))).heap[w.heap.size + 1]? = some (.cells #[.pointer none, .pointer none] 65 (0, 0))) := by
    have := blk_new (w.alloc (.cells #[.pointer none, .pointer none] 65)) (.cells #[.pointer none, .pointer none] 65)
    simp only [World.size_alloc] at this
    exact this
  rw [← hn]
  clear hC hn hl
  go_enter Try.func8, Try.ntmps8
  go_wp2_with fail
  refine HP.out.mono ?_
  rintro e w1 ⟨rfl, op, hp, hO, hlo⟩
  have HB1 : Hid (Below w.heap.size w w1) := HB0.out.trans (hO.below (Nat.le_refl _) (by simp; omega))
  have HP1 := Lib.hid hp
  have HPL : Hid (∀ k, op k ≠ 0 → w.heap.size + 2 ≤ k) := fun k hk => by have := hlo k hk; simp at this; omega
  have HQ1 : Hid (w1.heap[w.heap.size + 1]? = some (.cells #[.pointer none, .pointer none] 65 (0, 0))) := (hO.block _ (by simp) (by omega)).trans HQ0.out
  have HS1 : Hid (w.heap.size + 2 ≤ w1.heap.size) := by have := hO.size; simp at this; exact Lib.hid (by omega)
  have HQB := Lib.hid (begin27 w1 (w.heap.size + 1) HQ1.out other width 1 w.heap.size (by have := HS1.out; omega))
  clear hp hO hlo
  go_wp2_with (first
    | (go_at_call 27; refine HQB.out.mono ?_; rintro e w2 ⟨rfl, oq, hq, hO, hlo⟩
       have HB2 : Hid (Below w.heap.size w w2) := HB1.out.trans (hO.below (by omega) (by have := HS1.out; omega))
       have HT2 : Hid (Two w2 w.heap.size op oq w.heap.size (w.heap.size + 1) mode ports.toNat other width.toNat 0) := ⟨HP1.out.kept hO.upd (fun k hk => ind_ne (by have := HPL.out k hk; omega)) (ind_ne (by omega)), hq, fun k hk => by
          by_cases h1 : oq k = 0
          · exact h1
          · have := hlo k h1; have := (HP1.out.lo k hk).2; omega, by
          by_cases h1 : op (w.heap.size + 1) = 0
          · exact h1
          · have := HPL.out _ h1; omega, by
          by_cases h1 : oq w.heap.size = 0
          · exact h1
          · have := hlo _ h1; have := HS1.out; omega⟩
       clear hq hO hlo)
    | (go_at_call 17; refine (HIN.out w2 HB2.out).mono ?_; rintro e w3 ⟨⟨bi, rfl, hbi⟩, hb⟩
       have HB3 : Hid (Below w.heap.size w w3) := HB2.out.trans (hb.out.mono HB2.out.size)
       have HT3 := Lib.hid (HT2.out.below hb.out)
       have HBI := Lib.hid hbi
       clear hb hbi
       cases bi))
  · go_ret
    exact ⟨rfl, HB3.out⟩
  have Hp : Hid (partsOs l ≤ 10000) := HBI.out (by first | rfl | trivial)
  clear HBI HP HQ0 HP1 HPL HQ1 HS1 HQB HB0 HB1 HB2 HT2 HIN
  go_loopw [13, 14] (fun v13 v14 wr => ∃ (k : Nat) (op oq : Nat → Nat), k ≤ n ∧ v13 = .int .i64 k ∧ Hid (Below w.heap.size w wr) ∧ Hid (Two wr w.heap.size op oq w.heap.size (w.heap.size + 1) mode ports.toNat other width.toNat (partsOs (l.take k)))) (fun v13 _ _ => n - (intOf v13).toNat)
  case atStart => exact ⟨0, op, oq, Nat.zero_le _, rfl, HB3, HT3⟩
  case round =>
    clear HB3 HT3
    obtain ⟨k, op, oq, hk, rfl, HB, HT⟩ := hrel
    by_cases hlt : k < n
    rotate_left
    · go_wp2
      go_ret
      exact ⟨rfl, HB.out⟩
    by_cases h6 : (k : Int) < 600
    rotate_left
    · have h6' : decide ((k : Int) < 600) = false := by simpa using h6
      go_wp2
      go_ret
      exact ⟨rfl, HB.out⟩
    have h6' : decide ((k : Int) < 600) = true := by simpa using h6
    obtain ⟨ad, A8, c8, A9, c9, A10, c10, A11, c11, A13, c13, rfl, e0, e1, e2, e3, e4, e5, e6, e7, e8, e9, e10, e11, e12, e13, hl8, hC8, hl9, hC9, hl10, hC10, hl11, hC11, hl13, hC13⟩ := at_T47 HC.out (k : Int) (by omega) (by rw [← Hn.out]; omega)
    have hst : partsOs (l.take (k + 1)) = partsOs (l.take k) + partsO (rd_T47 l (k : Int)) := partsOs_step l k _ (by rw [← Hn.out]; exact hlt)
    generalize rd_T47 l (k : Int) = o at *
    rw [Int.toNat_natCast] at e0 e1 e2 e3 e4 e5 e6 e7 e8 e9 e10 e11 e12 e13
    replace e0 := (HB.out.cell (World.block_lt_of_cell? w _ e0)).trans e0
    replace e1 := (HB.out.cell (World.block_lt_of_cell? w _ e1)).trans e1
    replace e2 := (HB.out.cell (World.block_lt_of_cell? w _ e2)).trans e2
    replace e3 := (HB.out.cell (World.block_lt_of_cell? w _ e3)).trans e3
    replace e4 := (HB.out.cell (World.block_lt_of_cell? w _ e4)).trans e4
    replace e5 := (HB.out.cell (World.block_lt_of_cell? w _ e5)).trans e5
    replace e6 := (HB.out.cell (World.block_lt_of_cell? w _ e6)).trans e6
    replace e7 := (HB.out.cell (World.block_lt_of_cell? w _ e7)).trans e7
    replace e8 := (HB.out.cell (World.block_lt_of_cell? w _ e8)).trans e8
    replace e9 := (HB.out.cell (World.block_lt_of_cell? w _ e9)).trans e9
    replace e10 := (HB.out.cell (World.block_lt_of_cell? w _ e10)).trans e10
    replace e11 := (HB.out.cell (World.block_lt_of_cell? w _ e11)).trans e11
    replace e12 := (HB.out.cell (World.block_lt_of_cell? w _ e12)).trans e12
    replace e13 := (HB.out.cell (World.block_lt_of_cell? w _ e13)).trans e13
    have hpt : partsOs (l.take k) ≤ 10000 := Nat.le_trans (partsOs_take_le l k) Hp.out
    have hpo : partsO o ≤ 10000 := by
      have h1 := partsOs_take_le l (k + 1)
      have h2 := Hp.out
      omega
    have HST := Lib.hid hst
    have HLOp : Hid (∀ k, op k ≠ 0 → w.heap.size ≤ k) := fun k hk => (HT.out.hp.lo k hk).1
    have HLOq : Hid (∀ k, oq k ≠ 0 → w.heap.size ≤ k) := fun k hk => (HT.out.hq.lo k hk).1
    have i1 : (0 : Int) ≤ (k : Int) := by omega
    have i2 : (k : Int) < (n : Int) := by omega
    clear h6
    by_cases kw : o.f1 = 1
    · have kw' : (o.f1 == 1) = true := by simp [kw]
      clear kw
      rcases HT.out.hq with hS | hZ
      · have HPL := Lib.hid (playS hS (by omega) o A8 c8 A9 c9 A10 c10 A11 c11 A13 c13 (Away.of_C hC8 HB.out HLOq.out) hl8 (Away.of_C hC9 HB.out HLOq.out) hl9 (Away.of_C hC10 HB.out HLOq.out) hl10 (Away.of_C hC11 HB.out HLOq.out) hl11 (Away.of_C hC13 HB.out HLOq.out) hl13 (by omega))
        obtain ⟨gb, q0'⟩ := hS.ptr
        have q0 := q0'
        clear q0' hl8 hC8 hl9 hC9 hl10 hC10 hl11 hC11 hl13 hC13 hst hpt hpo hS
        go_wp2_with (first
          | (go_at_call 28; refine HPL.out.mono ?_; rintro e w2 ⟨rfl, ow2, hS2, hu2⟩
             have HT2 := Lib.hid (HT.out.stepQ hS2 hu2)
             have HB2 : Hid (Below w.heap.size w w2) := HB.out.trans (hu2.below HB.out.size (fun k hk => by by_cases h0 : oq k = 0; exact h0; have := HLOq.out k h0; omega))
             clear hS2 hu2))
        go_roundw
        case rel => exact ⟨k + 1, op, ow2, by omega, by go_num, HB2, by rw [HST.out]; exact Lib.hid (HT2.out)⟩
        case measure => simp [intOf]; omega
      · have q0 : wr.cell? ⟨w.heap.size + 1, 0, none⟩ = some (.pointer none) := blk_at hZ.2 0 rfl
        clear hl8 hC8 hl9 hC9 hl10 hC10 hl11 hC11 hl13 hC13 hst hpt hpo hZ
        go_wp2
        go_roundw
        case rel => exact ⟨k + 1, op, oq, by omega, by go_num, HB, by rw [HST.out]; exact Lib.hid (HT.out.mono (by omega))⟩
        case measure => simp [intOf]; omega
    · have kw' : (o.f1 == 1) = false := beq_false_of_ne kw
      clear kw
      rcases HT.out.hp with hS | hZ
      · have HPL := Lib.hid (playS hS (by omega) o A8 c8 A9 c9 A10 c10 A11 c11 A13 c13 (Away.of_C hC8 HB.out HLOp.out) hl8 (Away.of_C hC9 HB.out HLOp.out) hl9 (Away.of_C hC10 HB.out HLOp.out) hl10 (Away.of_C hC11 HB.out HLOp.out) hl11 (Away.of_C hC13 HB.out HLOp.out) hl13 (by omega))
        obtain ⟨gb, q0'⟩ := hS.ptr
        have q0 := q0'
        clear q0' hl8 hC8 hl9 hC9 hl10 hC10 hl11 hC11 hl13 hC13 hst hpt hpo hS
        go_wp2_with (first
          | (go_at_call 28; refine HPL.out.mono ?_; rintro e w2 ⟨rfl, ow2, hS2, hu2⟩
             have HT2 := Lib.hid (HT.out.stepP hS2 hu2)
             have HB2 : Hid (Below w.heap.size w w2) := HB.out.trans (hu2.below HB.out.size (fun k hk => by by_cases h0 : op k = 0; exact h0; have := HLOp.out k h0; omega))
             clear hS2 hu2))
        go_roundw
        case rel => exact ⟨k + 1, ow2, oq, by omega, by go_num, HB2, by rw [HST.out]; exact Lib.hid (HT2.out)⟩
        case measure => simp [intOf]; omega
      · have q0 : wr.cell? ⟨w.heap.size, 0, none⟩ = some (.pointer none) := blk_at hZ.2 0 rfl
        clear hl8 hC8 hl9 hC9 hl10 hC10 hl11 hC11 hl13 hC13 hst hpt hpo hZ
        go_wp2
        go_roundw
        case rel => exact ⟨k + 1, op, oq, by omega, by go_num, HB, by rw [HST.out]; exact Lib.hid (HT.out.mono (by omega))⟩
        case measure => simp [intOf]; omega
end Go.Proofs.Ytomfknblehkocaa.C
