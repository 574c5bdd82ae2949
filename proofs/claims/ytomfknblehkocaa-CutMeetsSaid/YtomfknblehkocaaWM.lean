/- CutMeets, walked. -/
import Derived.Test.YtomfknblehkocaaME
import Derived.Test.YtomfknblehkocaaWR
namespace Go.Proofs.Ytomfknblehkocaa.C
open Go.RowKit Go.Proofs.YtomfknblehkocaaW.PrintWords Go.Proofs.YtomfknblehkocaaW.PrintLast
set_option linter.unusedVariables false
set_option linter.unusedSimpArgs false
theorem C_one {w : World} {x : S45} {cs : List Value} (hK : k45.K w x cs) : Kd.C k45 (w.alloc (.cells cs.toArray 45)) (some ⟨w.heap.size, 0, none⟩) 1 [x] := by
  refine ⟨rfl, by decide, fun _ => ⟨_, rfl, fun j p hp => ?_⟩⟩
  match j, hp with
  | 0, hp =>
    simp at hp
    subst hp
    refine ⟨cs, k45.K_len hK, k45.K_below (below_alloc (Below.refl _ _) _) hK, fun i u hu => ?_⟩
    simp only [Nat.zero_mul, Nat.zero_add]
    by_cases hi : i = 0
    · subst hi
      exact blk_at (blk_new w _) 0 (by simpa using hu)
    · have e : (⟨w.heap.size, 0, none⟩ : Addr).add i = ⟨w.heap.size, i, none⟩ := by simp [Addr.add, hi]
      rw [e]
      exact blk_at (blk_new w _) i (by simpa using hu)
theorem legal_back {mode ports back : Int} (h : newE mode ports back = 0) : ¬ (back = 0 ∧ ports = 1) := by
  unfold newE at h
  split at h
  · omega
  · split at h
    · omega
    · omega
def FewR (x : S45) (e : Ending) : Prop := ∃ b, e = .returned (.bool b) ∧ (b = true → partsR x ≤ 10000)
set_option maxRecDepth 100000 in
set_option maxHeartbeats 4000000 in
theorem records31 (x : S45) (A : Option Addr) (c : Nat) (w : World) (hC : Kd.C k45 w A 1 [x]) (hl : lenR x) : Calls Try.prog 31 #[.slice A 1 c] w fun e w' => FewR x e ∧ Hid (Below w.heap.size w w') := by
  have HX : Hid (Calls Try.prog 38 #[.pointer (some ⟨w.heap.size, 0, none⟩), .slice A 1 c] (w.alloc (.cells #[.int .i64 10000] 101)) fun e w' => e = .returned (.tuple #[]) ∧ CntPost w.heap.size 10000 (partsRs [x]) (w.alloc (.cells #[.int .i64 10000] 101)) w') :=
    records38 [x] w w.heap.size 10000 A c _ (blk_new w _) hC ((Below.refl _ _).alloc (Nat.le_refl _) _) (Nat.le_refl _) (by omega) (by omega) (by simpa using hl)
  clear hC hl
  go_enter Try.func31, Try.ntmps31
  go_wp2_with (first
    | (go_at_call 34; refine (new34 _).mono ?_; rintro e w' ⟨rfl, rfl⟩)
    | (go_at_call 38; refine HX.out.mono ?_; rintro e w1 ⟨rfl, b, C1, O1, l1, u1, r1⟩
       have C1' := Lib.hid C1
       have O1' := Lib.hid O1
       have R1' := Lib.hid (And.intro u1 r1)
       clear C1 O1 l1 u1 r1)
    | (go_at_call 35; apply Hid.out))
  have HBB : Hid (Below w.heap.size w w1) := ((Below.refl _ _).alloc (Nat.le_refl _) _).trans (O1'.out.below (Nat.le_refl _) (by simp only [World.size_alloc]; omega))
  by_cases hb : 0 ≤ b
  · have HOK := Lib.hid (ok_yes w.heap.size b w1 C1'.out hb)
    refine Lib.hid ?_
    refine HOK.out.mono ?_
    rintro e w2 ⟨rfl, rfl⟩
    go_wp2
    go_ret
    refine ⟨⟨true, rfl, fun _ => ?_⟩, HBB.out⟩
    have := R1'.out.2 hb
    unfold partsRs at this
    simp at this
    omega
  · have HOK := Lib.hid (ok_no w.heap.size b w1 C1'.out (by omega))
    refine Lib.hid ?_
    refine HOK.out.mono ?_
    rintro e w2 ⟨rfl, rfl⟩
    go_wp2
    go_ret
    exact ⟨⟨false, rfl, fun h => by cases h⟩, HBB.out⟩
theorem Upd.below' {o1 o2 : Nat → Nat} {w w' : World} (h : Upd o1 w o2 w') {B : Nat} (hB : B ≤ w.heap.size) (ho : ∀ k, o1 k ≠ 0 → B ≤ k) : Below B w w' := h.below hB (fun k hk => by have := ho k; omega)
theorem mark_now0 {b : Bk} (h : 0 ≤ b.now) (port id : Int) (x : List S45) (s : S34) (y : List S45) : 0 ≤ (b.mark port id x s y).now := by
  by_cases h1 : b.closes port id = true
  · have hm : b.mark port id x s y = (b.begun id).close port.toNat x s y := by unfold Bk.mark; rw [if_pos h1]
    rw [hm, (close_now _ _ _ _ _).1]
    unfold Bk.begun
    split
    · show 0 ≤ id; omega
    · exact h
  · have hm : b.mark port id x s y = b := by unfold Bk.mark; rw [if_neg h1]
    rw [hm]
    exact h
theorem cnt_none (n : Nat) : cnt (fun _ => false) n = 0 := by
  induction n with
  | zero => rfl
  | succ n ih => show cnt (fun _ => false) n + _ = 0; rw [ih]; rfl
theorem ints_at {w : World} {A : Option Addr} {xs : List Int} (h : Kd.C (Kd.int .i64) w A xs.length xs) (i : Nat) (hi : i < xs.length) : ∃ ad, A = some ad ∧ w.cell? (ad.add i) = some (.int .i64 (xs.getD i 0)) := by
  obtain ⟨ad, c, e, hl, hk, hc⟩ := Kd.C_get h 0 (i : Int) (by omega) (by omega)
  have hk' : c = [.int .i64 (xs.getD (i : Int).toNat 0)] := hk
  rw [Int.toNat_natCast] at hk' hc
  refine ⟨ad, e, ?_⟩
  have := hc 0 (.int .i64 (xs.getD i 0)) (by rw [hk']; rfl)
  simpa [Kd.int, Kd.scalar] using this
def four (D : Nat → Bool) : Array Value := #[.bool (D 0), .bool (D 1), .bool (D 2), .bool (D 3)]
theorem four_at {w : World} {g : Nat} {D : Nat → Bool} (h : w.heap[g]? = some (.cells (four D) 36 (0, 0))) (p : Nat) (hp : p < 4) : w.cell? ⟨g, p, none⟩ = some (.bool (D p)) := by
  refine blk_at h p ?_
  match p, hp with
  | 0, _ => rfl
  | 1, _ => rfl
  | 2, _ => rfl
  | 3, _ => rfl
theorem four_set {w : World} {g : Nat} {D : Nat → Bool} (h : w.heap[g]? = some (.cells (four D) 36 (0, 0))) (p : Nat) (hp : p < 4) : (w.setCell ⟨g, p, none⟩ (.bool true)).heap[g]? = some (.cells (four fun k => if k = p then true else D k) 36 (0, 0)) := by
  refine blk_put h p _ ?_
  match p, hp with
  | 0, _ => rfl
  | 1, _ => rfl
  | 2, _ => rfl
  | 3, _ => rfl
theorem BkI.far {w : World} {base g : Nat} {own : Nat → Nat} {b : Bk} (h : BkI w base own g b) {p : Addr} (hp : own p.block = 0) (u : Value) : BkI (w.setCell p u) base own g b := by
  obtain ⟨gp, gl, vc, vd, lv, h⟩ := h
  have hm : ∀ k, own k ≠ 0 → (w.setCell p u).heap[k]? = w.heap[k]? := fun k hk => Below.heap_setCell _ _ _ _ (fun e => hk (e ▸ hp))
  have hR : ∀ {α : Type} {d : Kd α} {e t : Nat} {v : Value} {xs : List α}, 1 ≤ t → d.R e w base (fun k => own k = t) v xs → d.R e (w.setCell p u) base (fun k => own k = t) v xs := fun ht hR => Kd.R_step hR (fun k hk _ => hm k (by omega))
  exact ⟨gp, gl, vc, vd, lv, (hm g (by have := h.og; omega)).trans h.hb, (hm gp (by have := h.op; omega)).trans h.hp, (hm gl (by have := h.ol; omega)).trans h.hl, h.ll, h.lb, h.lp, fun i hi => hR (by omega) (h.rl i hi), hR (by omega) h.rc, hR (by omega) h.rd, h.og, h.op, h.ol, fun k hk => by simp only [World.size_setCell]; exact h.lo k hk⟩
theorem BkI.lo {w : World} {base g : Nat} {own : Nat → Nat} {b : Bk} (h : BkI w base own g b) : ∀ k, own k ≠ 0 → base ≤ k := by
  obtain ⟨gp, gl, vc, vd, lv, h⟩ := h
  exact fun k hk => (h.lo k hk).1
theorem BkI.free {w : World} {base g : Nat} {own : Nat → Nat} {b : Bk} (h : BkI w base own g b) {k : Nat} (hk : w.heap.size ≤ k) : own k = 0 := by
  obtain ⟨gp, gl, vc, vd, lv, h⟩ := h
  exact known_free h hk
set_option maxRecDepth 100000 in
set_option maxHeartbeats 8000000 in
theorem meets_walk (mode ports back : Int) (l : List S47) (A : Option Addr) (cc : Nat) (od : List Int) (Ao : Option Addr) (co : Nat) (r : S45) (A4 : Option Addr) (c4 : Nat) (A5 : Option Addr) (c5 : Nat) (w : World)
    (hC : Kd.C k47 w A l.length l) (hc : l.length ≤ cc) (hl : ∀ y ∈ l, lenO y) (hCo : Kd.C (Kd.int .i64) w Ao od.length od) (hco : od.length ≤ co) (hwo : od.length * 8 ≤ reachBytes) (hC4 : Kd.C k42 w A4 r.f1.f3.length r.f1.f3) (hc4 : r.f1.f3.length ≤ c4) (hC5 : Kd.C (Kd.int .i64) w A5 r.f2.length r.f2) (hc5 : r.f2.length ≤ c5) (hlr : lenR r) :
    Calls Try.prog 11 #[.int .i64 mode, .int .i64 ports, .int .i64 back, .slice A l.length cc, .slice Ao od.length co, .agg #[.string r.f0, .int .i64 r.f1.f0, .int .i64 r.f1.f1, .string r.f1.f2, .slice A4 r.f1.f3.length c4, .slice A5 r.f2.length c5]] w fun e w' => e = .returned (.bool true) ∧ Below w.heap.size w w' := by
  obtain ⟨n, hn⟩ : ∃ n, n = l.length := ⟨_, rfl⟩
  obtain ⟨m, hm⟩ : ∃ m, m = od.length := ⟨_, rfl⟩
  have Hn := Lib.hid hn
  have Hm := Lib.hid hm
  have hmax : n ≤ 9223372036854775807 := by rw [hn]; exact Kd.C_max hC
  have hmx : m ≤ 17592186044416 := by rw [hm]; unfold reachBytes at hwo; omega
  have HLE := Lib.hid (legal13 mode ports back (w.alloc (.cells #[.string r.f0, .int .i64 r.f1.f0, .int .i64 r.f1.f1, .string r.f1.f2, .slice A4 r.f1.f3.length c4, .slice A5 r.f2.length c5] 45)))
  have HB0 : Hid (Below w.heap.size w (w.alloc (.cells #[.string r.f0, .int .i64 r.f1.f0, .int .i64 r.f1.f1, .string r.f1.f2, .slice A4 r.f1.f3.length c4, .slice A5 r.f2.length c5] 45))) := (Below.refl _ _).alloc (Nat.le_refl _) _
  have HR31 : Hid (Calls Try.prog 31 #[.slice (some ⟨w.heap.size + 1, 0, none⟩) 1 1] ((w.alloc (.cells #[.string r.f0, .int .i64 r.f1.f0, .int .i64 r.f1.f1, .string r.f1.f2, .slice A4 r.f1.f3.length c4, .slice A5 r.f2.length c5] 45)).alloc (.cells #[.string r.f0, .int .i64 r.f1.f0, .int .i64 r.f1.f1, .string r.f1.f2, .slice A4 r.f1.f3.length c4, .slice A5 r.f2.length c5] 45)) fun e w' => FewR r e ∧ Hid (Below (w.heap.size + 1 + 1) ((w.alloc (.cells #[.string r.f0, .int .i64 r.f1.f0, .int .i64 r.f1.f1, .string r.f1.f2, .slice A4 r.f1.f3.length c4, .slice A5 r.f2.length c5] 45)).alloc (.cells #[.string r.f0, .int .i64 r.f1.f0, .int .i64 r.f1.f1, .string r.f1.f2, .slice A4 r.f1.f3.length c4, .slice A5 r.f2.length c5] 45)) w')) := by
    have h1 := C_one (w := (w.alloc (.cells #[.string r.f0, .int .i64 r.f1.f0, .int .i64 r.f1.f1, .string r.f1.f2, .slice A4 r.f1.f3.length c4, .slice A5 r.f2.length c5] 45))) (k45_mk _ r hc4 (Kd.C_below hC4 HB0.out) hc5 (Kd.C_below hC5 HB0.out))
    have h2 := records31 r _ 1 _ h1 hlr
    simp only [World.size_alloc] at h2
    exact h2
  rw [← hn, ← hm]
  by_cases hE : newE mode ports back = 0
  rotate_left
  · rw [beq_false_of_ne hE] at HLE
    clear hE hC hc hl hCo hco hwo hC4 hc4 hC5 hc5 hlr hn hm
    go_enter Try.func11, Try.ntmps11
    go_wp2_with (go_at_call 13; refine HLE.out.mono ?_; rintro e w' ⟨rfl, rfl⟩)
    go_ret
    exact ⟨rfl, HB0.out⟩
  have HM := Lib.hid (legal_mode hE)
  have HMB := Lib.hid (legal_back hE)
  have HNE : Hid (∀ W, Calls Try.prog 14 #[.int .i64 mode, .int .i64 ports, .int .i64 back] W fun e w' => NewOk mode ports.toNat back W e w') := fun W => by
    refine (new14 mode ports back W).mono ?_
    intro e w' h
    unfold NewAns at h
    rw [if_pos hE] at h
    exact h
  rw [show (newE mode ports back == 0) = true by simp [hE]] at HLE
  clear hE
  obtain ⟨pn, rfl⟩ : ∃ pn : Nat, ports = pn := ⟨ports.toNat, by have := HM.out; omega⟩
  rw [Int.toNat_natCast] at HNE
  have HC := Lib.hid hC
  have HCc := Lib.hid hc
  have HL := Lib.hid hl
  have HCo := Lib.hid hCo
  have HC4 := Lib.hid hC4
  have Hc4 := Lib.hid hc4
  have HC5 := Lib.hid hC5
  have Hc5 := Lib.hid hc5
  clear hC hc hl hCo hco hwo hC4 hc4 hC5 hc5 hlr hn hm
  go_enter Try.func11, Try.ntmps11
  go_wp2_with (first
    | (go_at_call 13; refine HLE.out.mono ?_; rintro e w' ⟨rfl, rfl⟩)
    | (go_at_call 31; refine HR31.out.mono ?_; rintro e w1 ⟨⟨bf, rfl, hbf⟩, hb⟩
       have HBF := Lib.hid hbf
       have HW1 : Hid (Below (w.heap.size + 1) (w.alloc (.cells #[.string r.f0, .int .i64 r.f1.f0, .int .i64 r.f1.f1, .string r.f1.f2, .slice A4 r.f1.f3.length c4, .slice A5 r.f2.length c5] 45)) w1) := ((Below.refl _ _).alloc (by simp only [World.size_alloc]; omega) _).trans (hb.out.mono (by omega))
       have HB1 : Hid (Below w.heap.size w w1) := HB0.out.trans (HW1.out.mono (by omega))
       clear hb hbf
       cases bf)
    | (go_at_call 14; refine (HNE.out w1).mono ?_; intro e w2 ha
       obtain ⟨g, own, rfl, hg, hb1, hB⟩ := ha
       have H1 := Lib.hid hb1
       have HB2 := Lib.hid hB
       clear hb1 hB)
    | (go_at_call 15; refine (num15 _ _).mono ?_; rintro e w' ⟨rfl, rfl⟩)
    | (go_at_call 16; refine (known16 mode HM.out.1 w2).mono ?_; rintro e w3 ⟨rfl, hb⟩
       have HK3 := Lib.hid hb
       have HB3 : Hid (Below w1.heap.size w1 w3) := HB2.out.trans (hb.mono HB2.out.size)
       clear hb)
    | (go_at_call 17
       have hCl : Kd.C k47 w3 A l.length l := Kd.C_below HC.out (HB1.out.trans (HB3.out.mono HB1.out.size))
       have hin := inside17 l A cc w3 hCl HL.out
       rw [← Hn.out] at hin
       refine hin.mono ?_; rintro e w4 ⟨⟨bi, rfl, hbi⟩, hb⟩
       have HK4 := Lib.hid hb.out
       have HB4 : Hid (Below w1.heap.size w1 w4) := HB3.out.trans (hb.out.mono HB3.out.size)
       have HBI := Lib.hid hbi
       clear hb hbi hCl hin
       cases bi))
  · go_ret
    exact ⟨rfl, HB1.out⟩
  · go_ret
    exact ⟨rfl, HB1.out.trans (HB4.out.mono HB1.out.size)⟩
  have Hp : Hid (partsOs l ≤ 10000) := HBI.out (by first | rfl | trivial)
  have Hpr : Hid (partsR r ≤ 10000) := HBF.out (by first | rfl | trivial)
  have H4 : Hid (BkI w4 w1.heap.size own g (Bk.new mode pn back)) := (H1.out.below HK3.out).below HK4.out
  have RB1 : Hid (w1.heap[w.heap.size]? = some (.cells #[.string r.f0, .int .i64 r.f1.f0, .int .i64 r.f1.f1, .string r.f1.f2, .slice A4 r.f1.f3.length c4, .slice A5 r.f2.length c5] 45 (0, 0))) := (HW1.out.block _ (by omega)).trans (blk_new w _)
  have hbx : w.heap.size < w1.heap.size := blk_lt RB1.out
  have DC := Lib.hid (Kd.C_below HC.out HB1.out)
  have DCo := Lib.hid (Kd.C_below HCo.out HB1.out)
  have D4 := Lib.hid (Kd.C_below HC4.out HB1.out)
  have D5 := Lib.hid (Kd.C_below HC5.out HB1.out)
  clear HBI HBF H1 HK3 HK4 HB2 HB3 HB0 HNE HLE HR31 HC HCo HC4 HC5
  go_loopw [15] (fun v15 wr => ∃ (k : Nat) (b : Bk) (own : Nat → Nat), k ≤ n ∧ v15 = .int .i64 k ∧ Hid (BkI wr w1.heap.size own g b) ∧ Hid (Below w1.heap.size w1 wr) ∧ Hid (0 ≤ b.now) ∧ Hid (Fit b mode back pn (partsOs (l.take k)))) (fun v15 _ => n - (intOf v15).toNat)
  case atStart => exact ⟨0, _, own, Nat.zero_le _, rfl, H4.out, HB4.out, Int.le_refl _, Fit.new _ _ _⟩
  case round =>
    clear H4 HB4
    obtain ⟨k, b, own, hk, rfl, ⟨gp, gl, vc, vd, lv, hb⟩, HB, HN0, HF⟩ := hrel
    have HBk := Lib.hid hb
    clear hb
    by_cases hlt : k < n ∧ (k : Int) < 600
    rotate_left
    · have hend : ¬ k < n ∨ (k < n ∧ decide ((k : Int) < 600) = false) := by
        by_cases h1 : k < n
        · exact .inr ⟨h1, by simp; omega⟩
        · exact .inl h1
      clear hlt
      have HF1 : Hid (Fit b mode back pn 10000) := HF.out.mono (Nat.le_trans (partsOs_take_le l k) Hp.out)
      have HN25 := Lib.hid (now25 HBk.out)
      have hn0 := HN0.out
      have HMM := HM.out
      have hpn : 1 ≤ pn ∧ pn ≤ 4 := by have := HM.out; omega
      obtain ⟨hpn1, hpn4⟩ := hpn
      clear HF HMM
      rcases hend with he | ⟨he, he2⟩
      all_goals
        by_cases hO : 9999 ≤ b.now
        · have hO' : decide (9999 ≤ b.now) = true := by simpa using hO
          clear hO
          go_wp2_with (first
            | (go_at_call 25; refine HN25.out.mono ?_; rintro e w' ⟨rfl, rfl⟩))
          go_ret
          exact ⟨rfl, HB1.out.trans (HB.out.mono HB1.out.size)⟩
        have hO' : decide (9999 ≤ b.now) = false := by simpa using hO
        have hO9 : b.now < 9999 := by omega
        clear hO
        by_cases g0 : b.held 0 = true
        · have GT := Lib.hid g0
          clear g0
          go_wp2_with (first
            | (go_at_call 25; refine HN25.out.mono ?_; rintro e w' ⟨rfl, rfl⟩)
            | (go_at_call 29; refine (held29 HBk.out _).mono ?_; rintro e w' ⟨he, rfl⟩
               first | rw [GT.out] at he
               subst he))
          go_ret
          exact ⟨rfl, HB1.out.trans (HB.out.mono HB1.out.size)⟩
        have g0' : b.held 0 = false := by simpa using g0
        have G0 := Lib.hid g0'
        clear g0 g0'
        by_cases g1 : b.held 1 = true
        · have GT := Lib.hid g1
          clear g1
          go_wp2_with (first
            | (go_at_call 25; refine HN25.out.mono ?_; rintro e w' ⟨rfl, rfl⟩)
            | (go_at_call 29; refine (held29 HBk.out _).mono ?_; rintro e w' ⟨he, rfl⟩
               first | rw [GT.out] at he | rw [G0.out] at he
               subst he))
          go_ret
          exact ⟨rfl, HB1.out.trans (HB.out.mono HB1.out.size)⟩
        have g1' : b.held 1 = false := by simpa using g1
        have G1 := Lib.hid g1'
        clear g1 g1'
        by_cases g2 : b.held 2 = true
        · have GT := Lib.hid g2
          clear g2
          go_wp2_with (first
            | (go_at_call 25; refine HN25.out.mono ?_; rintro e w' ⟨rfl, rfl⟩)
            | (go_at_call 29; refine (held29 HBk.out _).mono ?_; rintro e w' ⟨he, rfl⟩
               first | rw [GT.out] at he | rw [G0.out] at he | rw [G1.out] at he
               subst he))
          go_ret
          exact ⟨rfl, HB1.out.trans (HB.out.mono HB1.out.size)⟩
        have g2' : b.held 2 = false := by simpa using g2
        have G2 := Lib.hid g2'
        clear g2 g2'
        by_cases g3 : b.held 3 = true
        · have GT := Lib.hid g3
          clear g3
          go_wp2_with (first
            | (go_at_call 25; refine HN25.out.mono ?_; rintro e w' ⟨rfl, rfl⟩)
            | (go_at_call 29; refine (held29 HBk.out _).mono ?_; rintro e w' ⟨he, rfl⟩
               first | rw [GT.out] at he | rw [G0.out] at he | rw [G1.out] at he | rw [G2.out] at he
               subst he))
          go_ret
          exact ⟨rfl, HB1.out.trans (HB.out.mono HB1.out.size)⟩
        have g3' : b.held 3 = false := by simpa using g3
        have G3 := Lib.hid g3'
        clear g3 g3'
        go_wp2_with (first
          | (go_at_call 25; refine HN25.out.mono ?_; rintro e w' ⟨rfl, rfl⟩)
          | (go_at_call 29; refine (held29 HBk.out _).mono ?_; rintro e w' ⟨he, rfl⟩
             first | rw [G0.out] at he | rw [G1.out] at he | rw [G2.out] at he | rw [G3.out] at he
             subst he))
        have hheld : Hid (∀ q : Nat, q < pn → b.held q = false) := fun q hq => by
          match q, (show q < 4 by omega) with
          | 0, _ => exact G0.out
          | 1, _ => exact G1.out
          | 2, _ => exact G2.out
          | 3, _ => exact G3.out
        clear HN25 G0 G1 G2 G3
        obtain ⟨wA, rfl⟩ : ∃ wA : World, wA = wr := ⟨_, rfl⟩
        have hgd : w1.heap.size ≤ wA.heap.size := HB.out.size
        go_loopw [19, 20] (fun v19 v20 wr => ∃ (i : Nat) (D : Nat → Bool) (b2 : Bk) (own2 : Nat → Nat), i ≤ m + pn ∧ v20 = .int .i64 i ∧ v19 = .int .i64 ((pn : Int) - (cnt D pn : Nat)) ∧ Hid (BkI wr w1.heap.size own2 g b2) ∧ Hid (Below w1.heap.size w1 wr) ∧ Hid (Meet b2 mode back pn b.now D) ∧ Hid (Fit b2 mode back pn (10000 + 5 * cnt D pn)) ∧ Hid (wr.heap[wA.heap.size]? = some (.cells (four D) 36 (0, 0)) ∧ own2 wA.heap.size = 0) ∧ Hid (∀ p, p < pn → m + p < i → D p = true)) (fun _ v20 _ => m + pn - (intOf v20).toNat)
        case atStart =>
          refine ⟨0, fun _ => false, b, own, Nat.zero_le _, rfl, ?_, ⟨_, _, _, _, _, HBk.out.below (below_alloc (Below.refl _ _) _)⟩, HB.out.alloc HB.out.size _, .inl ⟨fun _ => rfl, rfl, hheld.out⟩, HF1.out.mono (Nat.le_add_right _ _), ⟨blk_new _ _, known_free HBk.out (Nat.le_refl _)⟩, fun p _ h => absurd h (by omega)⟩
          rw [cnt_none]
          simp
        case round =>
          obtain ⟨i, D, b2, own2, hi, rfl, rfl, HB2, HBw, HMe, HF2, HD, HDone⟩ := hrel
          have hcl := cnt_le D pn
          by_cases hgo : i < m + pn ∧ cnt D pn < pn
          rotate_left
          · have hall : ∀ p, p < pn → D p = true := fun p hp => by
              by_cases h1 : i < m + pn
              · exact cnt_all (by omega) p hp
              · exact HDone.out p hp (by omega)
            have hE := Lib.hid (HMe.out.end_ HF2.out hpn1 hall)
            have hend2 : (¬ i < m + pn ∧ ¬ (i : Int) < (m : Int) + (pn : Int)) ∨ ((i < m + pn ∧ (i : Int) < (m : Int) + (pn : Int)) ∧ ¬ 0 < (pn : Int) - (cnt D pn : Nat)) := by
              by_cases h1 : i < m + pn
              · exact .inr ⟨⟨h1, by omega⟩, by omega⟩
              · exact .inl ⟨h1, by omega⟩
            clear hgo hall
            obtain ⟨gp2, gl2, vc2, vd2, lv2, hb2⟩ := HB2.out
            have HK2 := Lib.hid hb2
            have hln : b2.logs.length = pn := hb2.lb.trans HF2.out.p
            have HLN := Lib.hid hln
            have Hlo2 := Lib.hid (HB2.out.lo)
            clear hb2 hln
            rcases hend2 with ⟨hz, hz1⟩ | ⟨⟨hz, hz1⟩, hz2⟩
            all_goals
              go_wp2_with (first
                | (go_at_call 22; refine (part22 HK2.out).mono ?_
                   intro e w6 hq
                   unfold PartAns at hq
                   rw [if_pos hE.out.1] at hq
                   obtain ⟨own6, v, he6, h6, u6, vc6, gl6, vd6, lv6, hv6, hvc, hvd, _⟩ := hq
                   obtain ⟨Ac, cc6, hc6⟩ := Kd.R_slice hvc
                   obtain ⟨Ad, cd6, hd6⟩ := Kd.R_slice hvd
                   rw [hc6, hd6, hE.out.2.2, HLN.out] at hv6
                   rw [hE.out.2.1, hv6] at he6
                   subst he6
                   have HB6 : Hid (Below w1.heap.size w1 w6) := HBw.out.trans (u6.below' HBw.out.size Hlo2.out)
                   clear h6 u6 hvc hvd hc6 hd6 hv6))
              go_ret
              refine ⟨by simp, ?_⟩
              exact HB1.out.trans ((HB6.out.alloc HB6.out.size _).mono HB1.out.size)
          have i1 : (i : Int) < (m : Int) + (pn : Int) := by omega
          have i2 : 0 < (pn : Int) - (cnt D pn : Nat) := by omega
          have hq : ∃ q : Int, (i < m ∧ od.getD i 0 = q) ∨ (m ≤ i ∧ (i : Int) - m = q) := by
            by_cases h1 : i < m
            · exact ⟨_, .inl ⟨h1, rfl⟩⟩
            · exact ⟨_, .inr ⟨by omega, rfl⟩⟩
          obtain ⟨q, hq⟩ := hq
          have hgi := hgo.1
          clear hgo
          rcases hq with ⟨hqa, hqb⟩ | ⟨hqa, hqb⟩
          · have hqi : (i : Int) < (m : Int) := by omega
            obtain ⟨ado, rfl, co0⟩ := ints_at DCo.out i (by rw [← Hm.out]; exact hqa)
            rw [hqb] at co0
            have co1 := (HBw.out.cell (World.block_lt_of_cell? w1 _ co0)).trans co0
            clear hqb co0
            have hcase : q < 0 ∨ (¬ q < 0 ∧ (pn : Int) ≤ q) ∨ ∃ p : Nat, q = p ∧ p < pn := by
              by_cases h1 : q < 0
              · exact .inl h1
              · by_cases h2 : (pn : Int) ≤ q
                · exact .inr (.inl ⟨h1, h2⟩)
                · exact .inr (.inr ⟨q.toNat, by omega, by omega⟩)
            rcases hcase with hc1 | ⟨hc1, hc2⟩ | ⟨p, rfl, hp⟩
            · go_wp2
              go_roundw
              case rel =>
                refine ⟨i + 1, D, b2, own2, by omega, by go_num, rfl, HB2.out, HBw.out, HMe.out, HF2.out, HD.out, fun p' hp' h => ?_⟩
                by_cases h2 : m + p' < i
                · exact HDone.out p' hp' h2
                · first
                    | (exfalso; omega)
                    | (obtain rfl : p' = p := by omega
                       exact Hd.out)
              case measure => simp [intOf]; omega
            · go_wp2
              go_roundw
              case rel =>
                refine ⟨i + 1, D, b2, own2, by omega, by go_num, rfl, HB2.out, HBw.out, HMe.out, HF2.out, HD.out, fun p' hp' h => ?_⟩
                by_cases h2 : m + p' < i
                · exact HDone.out p' hp' h2
                · first
                    | (exfalso; omega)
                    | (obtain rfl : p' = p := by omega
                       exact Hd.out)
              case measure => simp [intOf]; omega
            · have cD : wr.cell? ⟨wA.heap.size, p, none⟩ = some (.bool (D p)) := four_at HD.out.1 p (by omega)
              have hp1 : ¬ ((p : Int) < 0) := by omega
              have hp2 : ¬ ((pn : Int) ≤ (p : Int)) := by omega
              rcases hd : D p with _ | _
              rotate_left
              · rw [hd] at cD
                have Hd := Lib.hid hd
                clear hd
                go_wp2
                go_roundw
                case rel =>
                  refine ⟨i + 1, D, b2, own2, by omega, by go_num, rfl, HB2.out, HBw.out, HMe.out, HF2.out, HD.out, fun p' hp' h => ?_⟩
                  by_cases h2 : m + p' < i
                  · exact HDone.out p' hp' h2
                  · first
                      | (exfalso; omega)
                      | (obtain rfl : p' = p := by omega
                         exact Hd.out)
                case measure => simp [intOf]; omega
              rw [hd] at cD
              have Hd := Lib.hid hd
              clear hd
              obtain ⟨wB, rfl⟩ : ∃ wB : World, wB = wr := ⟨_, rfl⟩
              go_wp2
              go_loopw [22] (fun v22 wr => ∃ (qn : Nat) (b3 : Bk) (own3 : Nat → Nat), qn ≤ pn ∧ v22 = .int .i64 qn ∧ Hid (BkI wr w1.heap.size own3 g b3) ∧ Hid (Below w1.heap.size w1 wr) ∧ Hid (Meet b3 mode back pn b.now D) ∧ Hid (Fit b3 mode back pn (10000 + 5 * cnt D pn + qn)) ∧ Hid (wr.heap[wA.heap.size]? = some (.cells (four D) 36 (0, 0)) ∧ own3 wA.heap.size = 0)) (fun v22 _ => pn - (intOf v22).toNat)
              case atStart => exact ⟨0, b2, own2, Nat.zero_le _, rfl, HB2.out, HBw.out, HMe.out, HF2.out, HD.out⟩
              case round =>
                obtain ⟨qn, b3, own3, hqn, rfl, HB3, HBi, HM3, HF3, HD3⟩ := hrel
                obtain ⟨gp3, gl3, vc3, vd3, lv3, hb3⟩ := HB3.out
                have HK3 := Lib.hid hb3
                have Hlo3 := Lib.hid HB3.out.lo
                have Hs3 : Hid (w1.heap.size ≤ wr.heap.size) := HBi.out.size
                clear hb3
                by_cases hqlt : qn < pn
                · have cq : wr.cell? ⟨wA.heap.size, qn, none⟩ = some (.bool (D qn)) := four_at HD3.out.1 qn (by omega)
                  rcases hdq : D qn with _ | _
                  · rw [hdq] at cq
                    have HOK := Lib.hid (HM3.out.took_ok HF3.out qn hqlt hdq)
                    have RBi : Hid (wr.heap[w.heap.size]? = some (.cells #[.string r.f0, .int .i64 r.f1.f0, .int .i64 r.f1.f1, .string r.f1.f2, .slice A4 r.f1.f3.length c4, .slice A5 r.f2.length c5] 45 (0, 0))) := (HBi.out.block _ hbx).trans RB1.out
                    have r0 : wr.cell? ⟨w.heap.size, 0, none⟩ = some (.string r.f0) := blk_at RBi.out 0 rfl
                    have r1 : wr.cell? ⟨w.heap.size, 1, none⟩ = some (.int .i64 r.f1.f0) := blk_at RBi.out 1 rfl
                    have r2 : wr.cell? ⟨w.heap.size, 2, none⟩ = some (.int .i64 r.f1.f1) := blk_at RBi.out 2 rfl
                    have r3 : wr.cell? ⟨w.heap.size, 3, none⟩ = some (.string r.f1.f2) := blk_at RBi.out 3 rfl
                    have r4 : wr.cell? ⟨w.heap.size, 4, none⟩ = some (.slice A4 r.f1.f3.length c4) := blk_at RBi.out 4 rfl
                    have r5 : wr.cell? ⟨w.heap.size, 5, none⟩ = some (.slice A5 r.f2.length c5) := blk_at RBi.out 5 rfl
                    clear hdq
                    go_wp2_with (first
                      | (go_at_call 18; refine (took18 HK3.out Hs3.out qn r A4 c4 (Away.of_C D4.out HBi.out Hlo3.out) Hc4.out A5 c5 (Away.of_C D5.out HBi.out Hlo3.out) Hc5.out (Nat.le_trans Hpr.out (by omega)) (fun j => by have := HF3.out.l j; have := cnt_le D pn; omega)).mono ?_
                         rintro e w6 ⟨he6, own6, h6, u6⟩
                         rw [HOK.out] at he6
                         subst he6
                         have H6 := Lib.hid h6
                         have HB6 : Hid (Below w1.heap.size w1 w6) := HBi.out.trans (u6.below' HBi.out.size Hlo3.out)
                         have HD6 : Hid (w6.heap[wA.heap.size]? = some (.cells (four D) 36 (0, 0)) ∧ own6 wA.heap.size = 0) := ⟨(u6.block _ (blk_lt HD3.out.1) HD3.out.2).trans HD3.out.1, u6.same _ (blk_lt HD3.out.1) HD3.out.2⟩
                         clear h6 u6)
                      | (go_at_call 15; refine (num15 _ _).mono ?_; rintro e w' ⟨rfl, rfl⟩))
                    go_roundw
                    case rel => exact ⟨qn + 1, _, own6, by omega, by go_num, H6.out, HB6.out, HM3.out.took _ _, HF3.out.took _ _, HD6.out⟩
                    case measure => simp [intOf]; omega
                  · rw [hdq] at cq
                    clear hdq
                    go_wp2
                    go_roundw
                    case rel => exact ⟨qn + 1, b3, own3, by omega, by go_num, HB3.out, HBi.out, HM3.out, HF3.out.mono (Nat.le_succ _), HD3.out⟩
                    case measure => simp [intOf]; omega
                · obtain rfl : qn = pn := by omega
                  have HOK := Lib.hid (HM3.out.mark_ok HF3.out p hp Hd.out hn0 hO9)
                  have HMN := Lib.hid (HM3.out.mark HF3.out p hp Hd.out hn0 hO9 hpn1 HM.out.2.2.2.1 (by have := HMB.out; omega))
                  have HCS := Lib.hid (cnt_set Hd.out qn)
                  go_wp2_with (first
                    | (go_at_call 20; refine (mark20 HK3.out Hs3.out p (b.now + 1) [] none 0 (Away.nil _ _ _) (Nat.le_refl _) (by decide) ⟨5, []⟩ none 0 (Away.nil _ _ _) (Nat.le_refl _) (by decide) [] none 0 (Away.nil _ _ _) (Nat.le_refl _) (by decide) (fun j => by have := HF3.out.l j; have := cnt_le D qn; simp only [List.length_nil]; omega) (by rw [HF3.out.m]; exact HM.out.1)).mono ?_
                       rintro e w6 ⟨he6, own6, h6, u6⟩
                       rw [HOK.out] at he6
                       subst he6
                       have H6 := Lib.hid h6
                       have HB6 : Hid (Below w1.heap.size w1 w6) := HBi.out.trans (u6.below' HBi.out.size Hlo3.out)
                       have HD6 : Hid (w6.heap[wA.heap.size]? = some (.cells (four D) 36 (0, 0)) ∧ own6 wA.heap.size = 0) := ⟨(u6.block _ (blk_lt HD3.out.1) HD3.out.2).trans HD3.out.1, u6.same _ (blk_lt HD3.out.1) HD3.out.2⟩
                       have c6 : w6.cell? ⟨wA.heap.size, p, none⟩ = some (.bool (D p)) := four_at HD6.out.1 p (by omega)
                       have f6 : w6.frozen? ⟨wA.heap.size, p, none⟩ = false := blk_frozen HD6.out.1 p
                       clear h6 u6)
                    | (go_at_call 15; refine (num15 _ _).mono ?_; rintro e w' ⟨rfl, rfl⟩))
                  go_roundw
                  case rel =>
                    refine ⟨i + 1, fun k => if k = p then true else D k, _, own6, by omega, by go_num, ?_, H6.out.far HD6.out.2 _, HB6.out.setCell hgd _, HMN.out, (HF3.out.mark _ _ _ _ _).mono ?_, ⟨four_set HD6.out.1 p (by omega), HD6.out.2⟩, fun p' hp' h => ?_⟩
                    · rw [HCS.out, if_pos hp]
                      congr 1
                      omega
                    · rw [HCS.out, if_pos hp, List.length_nil]
                      omega
                    · by_cases h3 : p' = p
                      · show (if p' = p then true else D p') = true
                        rw [if_pos h3]
                      · show (if p' = p then true else D p') = true
                        rw [if_neg h3]
                        exact HDone.out p' hp' (by omega)
                  case measure => simp [intOf]; omega
          · have hqi : ¬ (i : Int) < (m : Int) := by omega
            have hqn : ¬ i < m := by omega
            have hcase : q < 0 ∨ (¬ q < 0 ∧ (pn : Int) ≤ q) ∨ ∃ p : Nat, q = p ∧ p < pn := by
              by_cases h1 : q < 0
              · exact .inl h1
              · by_cases h2 : (pn : Int) ≤ q
                · exact .inr (.inl ⟨h1, h2⟩)
                · exact .inr (.inr ⟨q.toNat, by omega, by omega⟩)
            rcases hcase with hc1 | ⟨hc1, hc2⟩ | ⟨p, rfl, hp⟩
            · exfalso; omega
            · exfalso; omega
            · have cD : wr.cell? ⟨wA.heap.size, p, none⟩ = some (.bool (D p)) := four_at HD.out.1 p (by omega)
              have hp1 : ¬ ((p : Int) < 0) := by omega
              have hp2 : ¬ ((pn : Int) ≤ (p : Int)) := by omega
              rcases hd : D p with _ | _
              rotate_left
              · rw [hd] at cD
                have Hd := Lib.hid hd
                clear hd
                go_wp2
                go_roundw
                case rel =>
                  refine ⟨i + 1, D, b2, own2, by omega, by go_num, rfl, HB2.out, HBw.out, HMe.out, HF2.out, HD.out, fun p' hp' h => ?_⟩
                  by_cases h2 : m + p' < i
                  · exact HDone.out p' hp' h2
                  · first
                      | (exfalso; omega)
                      | (obtain rfl : p' = p := by omega
                         exact Hd.out)
                case measure => simp [intOf]; omega
              rw [hd] at cD
              have Hd := Lib.hid hd
              clear hd
              obtain ⟨wB, rfl⟩ : ∃ wB : World, wB = wr := ⟨_, rfl⟩
              go_wp2
              go_loopw [22] (fun v22 wr => ∃ (qn : Nat) (b3 : Bk) (own3 : Nat → Nat), qn ≤ pn ∧ v22 = .int .i64 qn ∧ Hid (BkI wr w1.heap.size own3 g b3) ∧ Hid (Below w1.heap.size w1 wr) ∧ Hid (Meet b3 mode back pn b.now D) ∧ Hid (Fit b3 mode back pn (10000 + 5 * cnt D pn + qn)) ∧ Hid (wr.heap[wA.heap.size]? = some (.cells (four D) 36 (0, 0)) ∧ own3 wA.heap.size = 0)) (fun v22 _ => pn - (intOf v22).toNat)
              case atStart => exact ⟨0, b2, own2, Nat.zero_le _, rfl, HB2.out, HBw.out, HMe.out, HF2.out, HD.out⟩
              case round =>
                obtain ⟨qn, b3, own3, hqn, rfl, HB3, HBi, HM3, HF3, HD3⟩ := hrel
                obtain ⟨gp3, gl3, vc3, vd3, lv3, hb3⟩ := HB3.out
                have HK3 := Lib.hid hb3
                have Hlo3 := Lib.hid HB3.out.lo
                have Hs3 : Hid (w1.heap.size ≤ wr.heap.size) := HBi.out.size
                clear hb3
                by_cases hqlt : qn < pn
                · have cq : wr.cell? ⟨wA.heap.size, qn, none⟩ = some (.bool (D qn)) := four_at HD3.out.1 qn (by omega)
                  rcases hdq : D qn with _ | _
                  · rw [hdq] at cq
                    have HOK := Lib.hid (HM3.out.took_ok HF3.out qn hqlt hdq)
                    have RBi : Hid (wr.heap[w.heap.size]? = some (.cells #[.string r.f0, .int .i64 r.f1.f0, .int .i64 r.f1.f1, .string r.f1.f2, .slice A4 r.f1.f3.length c4, .slice A5 r.f2.length c5] 45 (0, 0))) := (HBi.out.block _ hbx).trans RB1.out
                    have r0 : wr.cell? ⟨w.heap.size, 0, none⟩ = some (.string r.f0) := blk_at RBi.out 0 rfl
                    have r1 : wr.cell? ⟨w.heap.size, 1, none⟩ = some (.int .i64 r.f1.f0) := blk_at RBi.out 1 rfl
                    have r2 : wr.cell? ⟨w.heap.size, 2, none⟩ = some (.int .i64 r.f1.f1) := blk_at RBi.out 2 rfl
                    have r3 : wr.cell? ⟨w.heap.size, 3, none⟩ = some (.string r.f1.f2) := blk_at RBi.out 3 rfl
                    have r4 : wr.cell? ⟨w.heap.size, 4, none⟩ = some (.slice A4 r.f1.f3.length c4) := blk_at RBi.out 4 rfl
                    have r5 : wr.cell? ⟨w.heap.size, 5, none⟩ = some (.slice A5 r.f2.length c5) := blk_at RBi.out 5 rfl
                    clear hdq
                    go_wp2_with (first
                      | (go_at_call 18; refine (took18 HK3.out Hs3.out qn r A4 c4 (Away.of_C D4.out HBi.out Hlo3.out) Hc4.out A5 c5 (Away.of_C D5.out HBi.out Hlo3.out) Hc5.out (Nat.le_trans Hpr.out (by omega)) (fun j => by have := HF3.out.l j; have := cnt_le D pn; omega)).mono ?_
                         rintro e w6 ⟨he6, own6, h6, u6⟩
                         rw [HOK.out] at he6
                         subst he6
                         have H6 := Lib.hid h6
                         have HB6 : Hid (Below w1.heap.size w1 w6) := HBi.out.trans (u6.below' HBi.out.size Hlo3.out)
                         have HD6 : Hid (w6.heap[wA.heap.size]? = some (.cells (four D) 36 (0, 0)) ∧ own6 wA.heap.size = 0) := ⟨(u6.block _ (blk_lt HD3.out.1) HD3.out.2).trans HD3.out.1, u6.same _ (blk_lt HD3.out.1) HD3.out.2⟩
                         clear h6 u6)
                      | (go_at_call 15; refine (num15 _ _).mono ?_; rintro e w' ⟨rfl, rfl⟩))
                    go_roundw
                    case rel => exact ⟨qn + 1, _, own6, by omega, by go_num, H6.out, HB6.out, HM3.out.took _ _, HF3.out.took _ _, HD6.out⟩
                    case measure => simp [intOf]; omega
                  · rw [hdq] at cq
                    clear hdq
                    go_wp2
                    go_roundw
                    case rel => exact ⟨qn + 1, b3, own3, by omega, by go_num, HB3.out, HBi.out, HM3.out, HF3.out.mono (Nat.le_succ _), HD3.out⟩
                    case measure => simp [intOf]; omega
                · obtain rfl : qn = pn := by omega
                  have HOK := Lib.hid (HM3.out.mark_ok HF3.out p hp Hd.out hn0 hO9)
                  have HMN := Lib.hid (HM3.out.mark HF3.out p hp Hd.out hn0 hO9 hpn1 HM.out.2.2.2.1 (by have := HMB.out; omega))
                  have HCS := Lib.hid (cnt_set Hd.out qn)
                  go_wp2_with (first
                    | (go_at_call 20; refine (mark20 HK3.out Hs3.out p (b.now + 1) [] none 0 (Away.nil _ _ _) (Nat.le_refl _) (by decide) ⟨5, []⟩ none 0 (Away.nil _ _ _) (Nat.le_refl _) (by decide) [] none 0 (Away.nil _ _ _) (Nat.le_refl _) (by decide) (fun j => by have := HF3.out.l j; have := cnt_le D qn; simp only [List.length_nil]; omega) (by rw [HF3.out.m]; exact HM.out.1)).mono ?_
                       rintro e w6 ⟨he6, own6, h6, u6⟩
                       rw [HOK.out] at he6
                       subst he6
                       have H6 := Lib.hid h6
                       have HB6 : Hid (Below w1.heap.size w1 w6) := HBi.out.trans (u6.below' HBi.out.size Hlo3.out)
                       have HD6 : Hid (w6.heap[wA.heap.size]? = some (.cells (four D) 36 (0, 0)) ∧ own6 wA.heap.size = 0) := ⟨(u6.block _ (blk_lt HD3.out.1) HD3.out.2).trans HD3.out.1, u6.same _ (blk_lt HD3.out.1) HD3.out.2⟩
                       have c6 : w6.cell? ⟨wA.heap.size, p, none⟩ = some (.bool (D p)) := four_at HD6.out.1 p (by omega)
                       have f6 : w6.frozen? ⟨wA.heap.size, p, none⟩ = false := blk_frozen HD6.out.1 p
                       clear h6 u6)
                    | (go_at_call 15; refine (num15 _ _).mono ?_; rintro e w' ⟨rfl, rfl⟩))
                  go_roundw
                  case rel =>
                    refine ⟨i + 1, fun k => if k = p then true else D k, _, own6, by omega, by go_num, ?_, H6.out.far HD6.out.2 _, HB6.out.setCell hgd _, HMN.out, (HF3.out.mark _ _ _ _ _).mono ?_, ⟨four_set HD6.out.1 p (by omega), HD6.out.2⟩, fun p' hp' h => ?_⟩
                    · rw [HCS.out, if_pos hp]
                      congr 1
                      omega
                    · rw [HCS.out, if_pos hp, List.length_nil]
                      omega
                    · by_cases h3 : p' = p
                      · show (if p' = p then true else D p') = true
                        rw [if_pos h3]
                      · show (if p' = p then true else D p') = true
                        rw [if_neg h3]
                        exact HDone.out p' hp' (by omega)
                  case measure => simp [intOf]; omega
    have h6' : decide ((k : Int) < 600) = true := by simpa using hlt.2
    have hlt := hlt.1
    obtain ⟨ad, A8, c8, A9, c9, A10, c10, A11, c11, A13, c13, rfl, e0, e1, e2, e3, e4, e5, e6, e7, e8, e9, e10, e11, e12, e13, hl8, hC8, hl9, hC9, hl10, hC10, hl11, hC11, hl13, hC13⟩ := at_T47 DC.out (k : Int) (by omega) (by rw [← Hn.out]; omega)
    have hmem : rd_T47 l (k : Int) ∈ l := getD_mem _ _ _ (by rw [Int.toNat_natCast, ← Hn.out]; exact hlt)
    have hst : partsOs (l.take (k + 1)) = partsOs (l.take k) + partsO (rd_T47 l (k : Int)) := partsOs_step l k _ (by rw [← Hn.out]; exact hlt)
    generalize rd_T47 l (k : Int) = o at *
    rw [Int.toNat_natCast] at e0 e1 e2 e3 e4 e5 e6 e7 e8 e9 e10 e11 e12 e13
    replace e0 := (HB.out.cell (World.block_lt_of_cell? w1 _ e0)).trans e0
    replace e1 := (HB.out.cell (World.block_lt_of_cell? w1 _ e1)).trans e1
    replace e2 := (HB.out.cell (World.block_lt_of_cell? w1 _ e2)).trans e2
    replace e3 := (HB.out.cell (World.block_lt_of_cell? w1 _ e3)).trans e3
    replace e4 := (HB.out.cell (World.block_lt_of_cell? w1 _ e4)).trans e4
    replace e5 := (HB.out.cell (World.block_lt_of_cell? w1 _ e5)).trans e5
    replace e6 := (HB.out.cell (World.block_lt_of_cell? w1 _ e6)).trans e6
    replace e7 := (HB.out.cell (World.block_lt_of_cell? w1 _ e7)).trans e7
    replace e8 := (HB.out.cell (World.block_lt_of_cell? w1 _ e8)).trans e8
    replace e9 := (HB.out.cell (World.block_lt_of_cell? w1 _ e9)).trans e9
    replace e10 := (HB.out.cell (World.block_lt_of_cell? w1 _ e10)).trans e10
    replace e11 := (HB.out.cell (World.block_lt_of_cell? w1 _ e11)).trans e11
    replace e12 := (HB.out.cell (World.block_lt_of_cell? w1 _ e12)).trans e12
    replace e13 := (HB.out.cell (World.block_lt_of_cell? w1 _ e13)).trans e13
    have hpo : partsO o ≤ 10000 := by
      have h1 := partsOs_take_le l (k + 1)
      have h2 := Hp.out
      omega
    have hpt : partsOs (l.take k) ≤ 10000 := Nat.le_trans (partsOs_take_le l k) Hp.out
    have hu : partsR o.f4 ≤ 100000 ∧ partsC o.f7.f1 ≤ 100000 ∧ partsRs o.f5 ≤ 100000 ∧ partsRs o.f6 ≤ 100000 := by unfold partsO at hpo; omega
    have HU := Lib.hid hu
    have HST := Lib.hid hst
    have hlo : ∀ k, own k ≠ 0 → w1.heap.size ≤ k := fun k hk => (HBk.out.lo k hk).1
    have Hlo := Lib.hid hlo
    have HL8 := Lib.hid hl8
    have HL9 := Lib.hid hl9
    have HL10 := Lib.hid hl10
    have HL11 := Lib.hid hl11
    have HL13 := Lib.hid hl13
    have HBx : Hid (Below w1.heap.size w1 (wr.alloc (.cells #[.int .i64 o.f0, .int .i64 o.f1, .int .i64 o.f2, .int .i64 o.f3, .string o.f4.f0, .int .i64 o.f4.f1.f0, .int .i64 o.f4.f1.f1, .string o.f4.f1.f2, .slice A8 o.f4.f1.f3.length c8, .slice A9 o.f4.f2.length c9, .slice A10 o.f5.length c10, .slice A11 o.f6.length c11, .int .i64 o.f7.f0, .slice A13 o.f7.f1.length c13] 47))) := HB.out.alloc HB.out.size _
    have a8 : Hid (Away k42 own (wr.alloc (.cells #[.int .i64 o.f0, .int .i64 o.f1, .int .i64 o.f2, .int .i64 o.f3, .string o.f4.f0, .int .i64 o.f4.f1.f0, .int .i64 o.f4.f1.f1, .string o.f4.f1.f2, .slice A8 o.f4.f1.f3.length c8, .slice A9 o.f4.f2.length c9, .slice A10 o.f5.length c10, .slice A11 o.f6.length c11, .int .i64 o.f7.f0, .slice A13 o.f7.f1.length c13] 47)) A8 o.f4.f1.f3) := Away.of_C hC8 HBx.out hlo
    have a9 : Hid (Away (Kd.int .i64) own (wr.alloc (.cells #[.int .i64 o.f0, .int .i64 o.f1, .int .i64 o.f2, .int .i64 o.f3, .string o.f4.f0, .int .i64 o.f4.f1.f0, .int .i64 o.f4.f1.f1, .string o.f4.f1.f2, .slice A8 o.f4.f1.f3.length c8, .slice A9 o.f4.f2.length c9, .slice A10 o.f5.length c10, .slice A11 o.f6.length c11, .int .i64 o.f7.f0, .slice A13 o.f7.f1.length c13] 47)) A9 o.f4.f2) := Away.of_C hC9 HBx.out hlo
    have a10 : Hid (Away k45 own (wr.alloc (.cells #[.int .i64 o.f0, .int .i64 o.f1, .int .i64 o.f2, .int .i64 o.f3, .string o.f4.f0, .int .i64 o.f4.f1.f0, .int .i64 o.f4.f1.f1, .string o.f4.f1.f2, .slice A8 o.f4.f1.f3.length c8, .slice A9 o.f4.f2.length c9, .slice A10 o.f5.length c10, .slice A11 o.f6.length c11, .int .i64 o.f7.f0, .slice A13 o.f7.f1.length c13] 47)) A10 o.f5) := Away.of_C hC10 HBx.out hlo
    have a11 : Hid (Away k45 own (wr.alloc (.cells #[.int .i64 o.f0, .int .i64 o.f1, .int .i64 o.f2, .int .i64 o.f3, .string o.f4.f0, .int .i64 o.f4.f1.f0, .int .i64 o.f4.f1.f1, .string o.f4.f1.f2, .slice A8 o.f4.f1.f3.length c8, .slice A9 o.f4.f2.length c9, .slice A10 o.f5.length c10, .slice A11 o.f6.length c11, .int .i64 o.f7.f0, .slice A13 o.f7.f1.length c13] 47)) A11 o.f6) := Away.of_C hC11 HBx.out hlo
    have a13 : Hid (Away k104 own (wr.alloc (.cells #[.int .i64 o.f0, .int .i64 o.f1, .int .i64 o.f2, .int .i64 o.f3, .string o.f4.f0, .int .i64 o.f4.f1.f0, .int .i64 o.f4.f1.f1, .string o.f4.f1.f2, .slice A8 o.f4.f1.f3.length c8, .slice A9 o.f4.f2.length c9, .slice A10 o.f5.length c10, .slice A11 o.f6.length c11, .int .i64 o.f7.f0, .slice A13 o.f7.f1.length c13] 47)) A13 o.f7.f1) := Away.of_C hC13 HBx.out hlo
    have HX : Hid (BkAt (wr.alloc (.cells #[.int .i64 o.f0, .int .i64 o.f1, .int .i64 o.f2, .int .i64 o.f3, .string o.f4.f0, .int .i64 o.f4.f1.f0, .int .i64 o.f4.f1.f1, .string o.f4.f1.f2, .slice A8 o.f4.f1.f3.length c8, .slice A9 o.f4.f2.length c9, .slice A10 o.f5.length c10, .slice A11 o.f6.length c11, .int .i64 o.f7.f0, .slice A13 o.f7.f1.length c13] 47)) w1.heap.size own g b gp gl vc vd lv) := HBk.out.below ((Below.refl _ _).alloc (Nat.le_refl _) _)
    have Hbs : Hid (w1.heap.size ≤ ((wr.alloc (.cells #[.int .i64 o.f0, .int .i64 o.f1, .int .i64 o.f2, .int .i64 o.f3, .string o.f4.f0, .int .i64 o.f4.f1.f0, .int .i64 o.f4.f1.f1, .string o.f4.f1.f2, .slice A8 o.f4.f1.f3.length c8, .slice A9 o.f4.f2.length c9, .slice A10 o.f5.length c10, .slice A11 o.f6.length c11, .int .i64 o.f7.f0, .slice A13 o.f7.f1.length c13] 47))).heap.size) := HBx.out.size
    have Hfr : Hid (own wr.heap.size = 0) := known_free HBk.out (Nat.le_refl _)
    have HLG : Hid (∀ i, (b.logs.getD i []).length ≤ 10000) := fun i => Nat.le_trans (HF.out.l i) hpt
    clear hC8 hC9 hC10 hC11 hC13 hmem hst hpo hpt hu hl8 hl9 hl10 hl11 hl13 hlo
    by_cases k1 : o.f0 = 1
    · have k1' : (o.f0 == 1) = true := by simp [k1]
      have k2' : (o.f0 == 2) = false := by simp [k1]
      clear k1
      go_wp2_with (first
        | (go_at_call 18; refine (took18 HX.out Hbs.out o.f2 o.f4 A8 c8 a8.out HL8.out A9 c9 a9.out HL9.out HU.out.1 (fun i => by have := HLG.out i; omega)).mono ?_
           rintro e w2 ⟨rfl, own2, h2, u2⟩
           have H2 := Lib.hid h2
           have HB2 : Hid (Below w1.heap.size w1 w2) := HBx.out.trans (u2.below' HBx.out.size Hlo.out)
           have cid : w2.cell? ⟨wr.heap.size, 0, none⟩ = some (.int .i64 o.f0) := blk_at ((u2.block wr.heap.size (by simp only [World.size_alloc]; omega) Hfr.out).trans (blk_new wr _)) 0 rfl
           clear h2 u2))
      go_roundw
      case rel =>
        refine ⟨k + 1, _, own2, by omega, by go_num, H2.out, HB2.out, by rw [(took_keeps _ _ _).2.1]; exact HN0.out, (HF.out.took _ _).mono ?_⟩
        have := HST.out
        have : 1 ≤ partsO o := by unfold partsO partsR; omega
        omega
      case measure => simp [intOf]; omega
    have k1' : (o.f0 == 1) = false := beq_false_of_ne k1
    clear k1
    by_cases k2 : o.f0 = 2
    · have k2' : (o.f0 == 2) = true := by simp [k2]
      clear k2
      go_wp2_with (first
        | (go_at_call 20; refine (mark20 HX.out Hbs.out o.f2 o.f3 o.f5 A10 c10 a10.out HL10.out HU.out.2.2.1 o.f7 A13 c13 a13.out HL13.out HU.out.2.1 o.f6 A11 c11 a11.out HL11.out HU.out.2.2.2 (fun i => by have := HLG.out i; have := partsRs_len o.f5; have := HU.out.2.2.1; omega) (by rw [HF.out.m]; exact HM.out.1)).mono ?_
           rintro e w2 ⟨rfl, own2, h2, u2⟩
           have H2 := Lib.hid h2
           have HB2 : Hid (Below w1.heap.size w1 w2) := HBx.out.trans (u2.below' HBx.out.size Hlo.out)
           clear h2 u2))
      go_roundw
      case rel =>
        refine ⟨k + 1, _, own2, by omega, by go_num, H2.out, HB2.out, mark_now0 HN0.out _ _ _ _ _, (HF.out.mark _ _ _ _ _).mono ?_⟩
        have := HST.out
        have := partsRs_len o.f5
        unfold partsO at *
        omega
      case measure => simp [intOf]; omega
    · have k2' : (o.f0 == 2) = false := beq_false_of_ne k2
      clear k2
      go_wp2
      go_roundw
      case rel =>
        refine ⟨k + 1, b, own, by omega, by go_num, ⟨_, _, _, _, _, HX.out⟩, HBx.out, HN0.out, HF.out.mono ?_⟩
        have := HST.out
        omega
      case measure => simp [intOf]; omega
end Go.Proofs.Ytomfknblehkocaa.C
