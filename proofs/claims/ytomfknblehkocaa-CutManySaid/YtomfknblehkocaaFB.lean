/- The document's book: New, Held, Took. -/
import Derived.Test.YtomfknblehkocaaFA
import Derived.Test.YtomfknblehkocaaBQ
import Derived.Test.YtomfknblehkocaaCS
import Derived.Test.YtomfknblehkocaaCR
namespace Go.Proofs.Ytomfknblehkocaa.C
open Go.RowKit Go.Proofs.YtomfknblehkocaaW.PrintWords Go.Proofs.YtomfknblehkocaaW.PrintLast
set_option linter.unusedVariables false
set_option linter.unusedSimpArgs false

theorem info109 : (Try.prog.info? 109).map (fun i => (i.zero, i.size, i.bytes)) = some (some (.agg #[.int .i64 0, .int .i64 0, .string ⟨#[]⟩, .int .i64 0, .int .i64 0, .string ⟨#[]⟩, .slice none 0 0, .slice none 0 0, .slice none 0 0, .int .i64 0, .slice none 0 0, .slice none 0 0]), 12, 192) := by kernel_rfl
def RkI (w : World) (base : Nat) (own : Nat → Nat) (g : Nat) (r : Rk) : Prop := ∃ A c, RkAt w base own g r A c
def RkPost (base : Nat) (own : Nat → Nat) (g : Nat) (r' : Rk) (w w' : World) : Prop := ∃ own', RkI w' base own' g r' ∧ Upd own w own' w'
def Rk.new (mode ports back : Int) : Rk := ⟨mode, ports, back, 0, [], false⟩
def RNewOk (mode ports back : Int) (w : World) (e : Ending) (w' : World) : Prop :=
  ∃ g own, e = .returned (.tuple #[.pointer (some ⟨g, 0, none⟩), .int .i64 0]) ∧ w.heap.size ≤ g ∧ RkI w' w.heap.size own g (Rk.new mode ports back) ∧ Below w.heap.size w w'
def RNewAns (mode ports back : Int) (w : World) (e : Ending) (w' : World) : Prop :=
  if newE mode ports back = 0 then RNewOk mode ports back w e w' else e = .returned (.tuple #[.pointer none, .int .i64 (newE mode ports back)]) ∧ w = w'
theorem rnew_bad {mode ports back E : Int} {w : World} (h : newE mode ports back = E) (hE : E ≠ 0) (hc : Calls Try.prog 48 #[.int .i64 mode, .int .i64 ports, .int .i64 back] w fun e w' => e = .returned (.tuple #[.pointer none, .int .i64 E]) ∧ w = w') :
    Calls Try.prog 48 #[.int .i64 mode, .int .i64 ports, .int .i64 back] w fun e w' => RNewAns mode ports back w e w' := by
  refine hc.mono ?_
  intro e w' he
  unfold RNewAns
  rw [h, if_neg hE]
  exact he

set_option maxRecDepth 100000 in
set_option maxHeartbeats 4000000 in
theorem new48_m1 (mode ports back : Int) (w : World)  (h0 : decide (mode < 1) = true) : Calls Try.prog 48 #[.int .i64 mode, .int .i64 ports, .int .i64 back] w fun e w' => e = .returned (.tuple #[.pointer none, .int .i64 130]) ∧ w = w' := by
  go_enter Try.func48, Try.ntmps48
  go_wp2
  go_ret2
  exact ⟨rfl, rfl⟩

set_option maxRecDepth 100000 in
set_option maxHeartbeats 4000000 in
theorem new48_m2 (mode ports back : Int) (w : World) (h0 : decide (mode < 1) = false) (h1 : decide (3 < mode) = true) : Calls Try.prog 48 #[.int .i64 mode, .int .i64 ports, .int .i64 back] w fun e w' => e = .returned (.tuple #[.pointer none, .int .i64 130]) ∧ w = w' := by
  go_enter Try.func48, Try.ntmps48
  go_wp2
  go_ret2
  exact ⟨rfl, rfl⟩

set_option maxRecDepth 100000 in
set_option maxHeartbeats 4000000 in
theorem new48_p0 (mode ports back : Int) (w : World) (h0 : decide (mode < 1) = false) (h1 : decide (3 < mode) = false) (h2 : decide (ports < 1) = true) : Calls Try.prog 48 #[.int .i64 mode, .int .i64 ports, .int .i64 back] w fun e w' => e = .returned (.tuple #[.pointer none, .int .i64 131]) ∧ w = w' := by
  go_enter Try.func48, Try.ntmps48
  go_wp2
  go_ret2
  exact ⟨rfl, rfl⟩

set_option maxRecDepth 100000 in
set_option maxHeartbeats 4000000 in
theorem new48_p1 (mode ports back : Int) (w : World) (h0 : decide (mode < 1) = false) (h1 : decide (3 < mode) = false) (h2 : decide (ports < 1) = false) (h3 : decide (4 < ports) = true) : Calls Try.prog 48 #[.int .i64 mode, .int .i64 ports, .int .i64 back] w fun e w' => e = .returned (.tuple #[.pointer none, .int .i64 131]) ∧ w = w' := by
  go_enter Try.func48, Try.ntmps48
  go_wp2
  go_ret2
  exact ⟨rfl, rfl⟩

set_option maxRecDepth 100000 in
set_option maxHeartbeats 4000000 in
theorem new48_b0 (mode ports back : Int) (w : World) (h0 : decide (mode < 1) = false) (h1 : decide (3 < mode) = false) (h2 : decide (ports < 1) = false) (h3 : decide (4 < ports) = false) (h4 : decide (back < -1) = true) : Calls Try.prog 48 #[.int .i64 mode, .int .i64 ports, .int .i64 back] w fun e w' => e = .returned (.tuple #[.pointer none, .int .i64 131]) ∧ w = w' := by
  go_enter Try.func48, Try.ntmps48
  go_wp2
  go_ret2
  exact ⟨rfl, rfl⟩

set_option maxRecDepth 100000 in
set_option maxHeartbeats 4000000 in
theorem new48_b1 (mode ports back : Int) (w : World) (h0 : decide (mode < 1) = false) (h1 : decide (3 < mode) = false) (h2 : decide (ports < 1) = false) (h3 : decide (4 < ports) = false) (h4 : decide (back < -1) = false) (h5 : decide (ports ≤ back) = true) : Calls Try.prog 48 #[.int .i64 mode, .int .i64 ports, .int .i64 back] w fun e w' => e = .returned (.tuple #[.pointer none, .int .i64 131]) ∧ w = w' := by
  go_enter Try.func48, Try.ntmps48
  go_wp2
  go_ret2
  exact ⟨rfl, rfl⟩

set_option maxRecDepth 100000 in
set_option maxHeartbeats 4000000 in
theorem new48_q (mode ports back : Int) (w : World) (h0 : decide (mode < 1) = false) (h1 : decide (3 < mode) = false) (h2 : decide (ports < 1) = false) (h3 : decide (4 < ports) = false) (h4 : decide (back < -1) = false) (h5 : decide (ports ≤ back) = false) (h6 : (ports == 1) = true) (h7 : (back == 0) = true) : Calls Try.prog 48 #[.int .i64 mode, .int .i64 ports, .int .i64 back] w fun e w' => e = .returned (.tuple #[.pointer none, .int .i64 131]) ∧ w = w' := by
  go_enter Try.func48, Try.ntmps48
  go_wp2
  go_ret2
  exact ⟨rfl, rfl⟩

theorem rnewOk (mode ports back : Int) (w : World) (hp : 1 ≤ ports ∧ ports ≤ 4) : RNewOk mode ports back w (.returned (.tuple #[.pointer (some ⟨w.heap.size, 0, none⟩), .int .i64 0])) (w.alloc (.cells #[.int .i64 mode, .int .i64 ports, .int .i64 back, .int .i64 0, .slice none 0 0, .bool false] 99)) := by
  refine ⟨w.heap.size, fun k => if k = w.heap.size then 1 else 0, rfl, Nat.le_refl _, ⟨none, 0, blk_new w _, Kd.R_nil _ _ _ _ _, hp, if_pos rfl, fun k hk => ?_⟩, (Below.refl _ _).alloc (Nat.le_refl _) _⟩
  by_cases h : k = w.heap.size
  · subst h; simp
  · rw [if_neg h] at hk; exact absurd rfl hk

set_option maxRecDepth 100000 in
set_option maxHeartbeats 4000000 in
theorem new48_ok1 (mode ports back : Int) (w : World) (h0 : decide (mode < 1) = false) (h1 : decide (3 < mode) = false) (h2 : decide (ports < 1) = false) (h3 : decide (4 < ports) = false) (h4 : decide (back < -1) = false) (h5 : decide (ports ≤ back) = false) (h6 : (ports == 1) = true) (h7 : (back == 0) = false) (hp : 1 ≤ ports ∧ ports ≤ 4) : Calls Try.prog 48 #[.int .i64 mode, .int .i64 ports, .int .i64 back] w fun e w' => RNewOk mode ports back w e w' := by
  have HOK := Lib.hid (rnewOk mode ports back w hp)
  clear hp
  go_enter Try.func48, Try.ntmps48
  go_wp2
  go_ret2
  exact HOK.out

set_option maxRecDepth 100000 in
set_option maxHeartbeats 4000000 in
theorem new48_ok2 (mode ports back : Int) (w : World) (h0 : decide (mode < 1) = false) (h1 : decide (3 < mode) = false) (h2 : decide (ports < 1) = false) (h3 : decide (4 < ports) = false) (h4 : decide (back < -1) = false) (h5 : decide (ports ≤ back) = false) (h6 : (ports == 1) = false) (hp : 1 ≤ ports ∧ ports ≤ 4) : Calls Try.prog 48 #[.int .i64 mode, .int .i64 ports, .int .i64 back] w fun e w' => RNewOk mode ports back w e w' := by
  have HOK := Lib.hid (rnewOk mode ports back w hp)
  clear hp
  go_enter Try.func48, Try.ntmps48
  go_wp2
  go_ret2
  exact HOK.out

theorem new48 (mode ports back : Int) (w : World) : Calls Try.prog 48 #[.int .i64 mode, .int .i64 ports, .int .i64 back] w fun e w' => RNewAns mode ports back w e w' := by
  by_cases a0 : mode < 1
  · exact rnew_bad (E := 130) (by unfold newE; rw [if_pos (.inl a0)]) (by decide) (new48_m1 mode ports back w (by simpa using a0))
  by_cases a1 : 3 < mode
  · exact rnew_bad (E := 130) (by unfold newE; rw [if_pos (.inr a1)]) (by decide) (new48_m2 mode ports back w (by simpa using a0) (by simpa using a1))
  have nm : ¬ (mode < 1 ∨ 3 < mode) := by omega
  by_cases a2 : ports < 1
  · exact rnew_bad (E := 131) (by unfold newE; rw [if_neg nm, if_pos (by omega)]) (by decide) (new48_p0 mode ports back w (by simpa using a0) (by simpa using a1) (by simpa using a2))
  by_cases a3 : 4 < ports
  · exact rnew_bad (E := 131) (by unfold newE; rw [if_neg nm, if_pos (by omega)]) (by decide) (new48_p1 mode ports back w (by simpa using a0) (by simpa using a1) (by simpa using a2) (by simpa using a3))
  by_cases a4 : back < -1
  · exact rnew_bad (E := 131) (by unfold newE; rw [if_neg nm, if_pos (by omega)]) (by decide) (new48_b0 mode ports back w (by simpa using a0) (by simpa using a1) (by simpa using a2) (by simpa using a3) (by simpa using a4))
  by_cases a5 : ports ≤ back
  · exact rnew_bad (E := 131) (by unfold newE; rw [if_neg nm, if_pos (by omega)]) (by decide) (new48_b1 mode ports back w (by simpa using a0) (by simpa using a1) (by simpa using a2) (by simpa using a3) (by simpa using a4) (by simpa using a5))
  have hp : 1 ≤ ports ∧ ports ≤ 4 := by omega
  have ok : ¬ (back = 0 ∧ ports = 1) → (Calls Try.prog 48 #[.int .i64 mode, .int .i64 ports, .int .i64 back] w fun e w' => RNewOk mode ports back w e w') → Calls Try.prog 48 #[.int .i64 mode, .int .i64 ports, .int .i64 back] w fun e w' => RNewAns mode ports back w e w' := fun hn hc => by
    refine hc.mono ?_
    intro e w' he
    unfold RNewAns
    rw [if_pos (by unfold newE; rw [if_neg nm, if_neg (by omega)])]
    exact he
  by_cases a6 : ports = 1
  · by_cases a7 : back = 0
    · exact rnew_bad (E := 131) (by unfold newE; rw [if_neg nm, if_pos (by omega)]) (by decide) (new48_q mode ports back w (by simpa using a0) (by simpa using a1) (by simpa using a2) (by simpa using a3) (by simpa using a4) (by simpa using a5) (by simpa using a6) (by simpa using a7))
    · exact ok (by omega) (new48_ok1 mode ports back w (by simpa using a0) (by simpa using a1) (by simpa using a2) (by simpa using a3) (by simpa using a4) (by simpa using a5) (by simpa using a6) (by simpa using a7) hp)
  · exact ok (by omega) (new48_ok2 mode ports back w (by simpa using a0) (by simpa using a1) (by simpa using a2) (by simpa using a3) (by simpa using a4) (by simpa using a5) (by simpa using a6) hp)
section
variable {w : World} {base : Nat} {own : Nat → Nat} {g : Nat} {r : Rk} {A : Option Addr} {c : Nat}

set_option maxRecDepth 100000 in
set_option maxHeartbeats 4000000 in
theorem held53 (h : RkAt w base own g r A c) (port : Int) : Calls Try.prog 53 #[.pointer (some ⟨g, 0, none⟩), .int .i64 port] w fun e w' => BoolIs (r.held port) w e w' := by
  have c0 : w.cell? ⟨g, 0, none⟩ = some (.int .i64 r.mode) := blk_at h.hb 0 rfl
  have HX := Lib.hid h
  have HP := Lib.hid (copied63 h)
  clear h
  by_cases hm : r.mode = 1
  rotate_left
  · have hm' : (r.mode == 1) = false := beq_false_of_ne hm
    have HE : Hid (r.held port = false) := by unfold Rk.held; rw [hm']; exact Lib.hid rfl
    clear hm
    go_enter Try.func53, Try.ntmps53
    go_wp2
    go_ret
    exact ⟨congrArg (fun z => Ending.returned (.bool z)) HE.out.symm, Lib.hid (Below.refl _ _)⟩
  have hm' : (r.mode == 1) = true := by simp [hm]
  have HE : Hid (r.held port = (decide (r.cop < 0) && decide (0 ≤ r.clo port))) := by unfold Rk.held; rw [hm']; exact Lib.hid rfl
  clear hm
  by_cases hc : r.cop < 0
  · have hq : decide (r.cop < 0) = true := decide_eq_true hc
    rw [hq] at HE
    generalize r.cop = q at *
    clear hc
    have HD := Lib.hid HE
    clear HE
    generalize hz : r.clo port = z at *
    have HZ := Lib.hid hz
    clear hz
    go_enter Try.func53, Try.ntmps53
    go_wp2_with (first
      | (go_at_call 63; refine HP.out.mono ?_; rintro e w1 ⟨rfl, hb1⟩
         have HB1 : Hid (Below w.heap.size w w1) := hb1
         clear hb1)
      | (go_at_call 62; refine (closed62 (HX.out.below HB1.out) port).mono ?_; rintro e w2 ⟨rfl, hb2⟩
         have HB2 : Hid (Below w.heap.size w w2) := HB1.out.trans (hb2.out.mono HB1.out.size)
         rw [HZ.out]
         clear hb2))
    go_ret
    exact ⟨congrArg (fun z => Ending.returned (.bool z)) HD.out.out.symm, HB2⟩
  · have hq : decide (r.cop < 0) = false := decide_eq_false hc
    rw [hq] at HE
    generalize r.cop = q at *
    clear hc
    have HD := Lib.hid HE
    clear HE
    go_enter Try.func53, Try.ntmps53
    go_wp2_with (first
      | (go_at_call 63; refine HP.out.mono ?_; rintro e w1 ⟨rfl, hb1⟩
         have HB1 : Hid (Below w.heap.size w w1) := hb1
         clear hb1))
    go_ret
    exact ⟨congrArg (fun z => Ending.returned (.bool z)) HD.out.out.symm, HB1⟩

def Rk.add (r : Rk) (t : S109) : Rk := ⟨r.mode, r.ports, r.back, r.last, r.list ++ [t], r.handed⟩
def ownL (own : Nat → Nat) (B E : Nat) : Nat → Nat := fun k => if k < B then own k else if k < E then 2 else 0
theorem RkAt.gne (h : RkAt w base own g r A c) : some g ≠ (Value.slice A r.list.length c).ownBlock := fun he => by
  have h1 := h.hl.1 g he.symm
  have h2 := h.og
  omega
theorem RkAt.glt (h : RkAt w base own g r A c) : g < w.heap.size := (h.lo g (by have := h.og; omega)).2
theorem RkAt.free (h : RkAt w base own g r A c) {k : Nat} (hk : w.heap.size ≤ k) : own k = 0 := by
  by_cases h0 : own k = 0
  · exact h0
  · have := (h.lo k h0).2; omega
theorem RkAt.longer (h : RkAt w base own g r A c) (hbase : base ≤ w.heap.size) {w3 w4 : World} (hb : Below w.heap.size w w3) (hg : w3.grownBy w4 (Value.slice A r.list.length c).ownBlock) {t : S109} {A1 : Option Addr} {m1 c1 : Nat}
    (hO : Kd.R k109 109 w4 base (fun k => own k = 2 ∨ w.heap.size ≤ k) (.slice A1 m1 c1) (r.list ++ [t])) :
    RkAt (w4.setCell ⟨g, 4, none⟩ (.slice A1 m1 c1)) base (ownL own w.heap.size w4.heap.size) g (r.add t) A1 c1 ∧ Upd own w (ownL own w.heap.size w4.heap.size) (w4.setCell ⟨g, 4, none⟩ (.slice A1 m1 c1)) := by
  have hlt := h.glt
  have s3 := hb.size
  have s4 := hg.size
  obtain ⟨hm1, _, _⟩ := Kd.R_reads' hO
  subst hm1
  have hG : w4.heap[g]? = some (.cells #[.int .i64 r.mode, .int .i64 r.ports, .int .i64 r.back, .int .i64 r.last, .slice A r.list.length c, .bool r.handed] 99 (0, 0)) :=
    (hg.block g (Nat.lt_of_lt_of_le hlt s3) h.gne).trans ((hb.block g hlt).trans h.hb)
  refine ⟨⟨blk_put hG 4 _ rfl, ?_, h.hp, by unfold ownL; rw [if_pos hlt]; exact h.og, fun k hk => ?_⟩, ⟨?_, ?_, ?_, ?_, fun k hk h0 => by unfold ownL; rw [if_pos hk]; exact h0, fun k hk h0 => ?_⟩⟩
  · have h1 := Kd.R_bound hO
    refine Kd.R_far (Kd.R_mono h1 (fun k hk => ?_)) (fun k hk he => ?_) _
    · unfold ownL
      rcases hk.1 with h2 | h2
      · by_cases h3 : k < w.heap.size
        · rw [if_pos h3]; exact h2
        · rw [if_neg h3, if_pos hk.2.2.1]
      · rw [if_neg (by omega), if_pos hk.2.2.1]
    · subst he
      unfold ownL at hk
      rw [if_pos hlt] at hk
      have := h.og
      omega
  · unfold ownL at hk
    simp only [World.size_setCell]
    by_cases h1 : k < w.heap.size
    · rw [if_pos h1] at hk
      exact ⟨(h.lo k hk).1, by omega⟩
    · rw [if_neg h1] at hk
      by_cases h2 : k < w4.heap.size
      · exact ⟨by omega, h2⟩
      · rw [if_neg h2] at hk; exact absurd rfl hk
  · exact hg.os.trans hb.os
  · exact hg.tape.trans hb.tape
  · exact hg.output.trans hb.output
  · simp only [World.size_setCell]; omega
  · have h1 : k ≠ g := fun e => by have := h.og; rw [← e] at this; omega
    refine (Below.heap_setCell _ _ _ _ h1).trans ((hg.block k (by omega) (fun he => ?_)).trans (hb.block k hk))
    have := h.hl.1 k he.symm
    omega

def Rk.tookE (r : Rk) (port : Int) : Int := if port < 0 ∨ r.ports ≤ port then 132 else if r.held port = true then 134 else 0
def toldR (port : Int) (x : S45) : S109 := ⟨port, 0, x, [], ⟨0, []⟩, []⟩
def Rk.took (r : Rk) (port : Int) (x : S45) : Rk := if r.tookE port = 0 ∧ 0 < r.list.length then r.add (toldR port x) else r

set_option maxRecDepth 100000 in
set_option maxHeartbeats 4000000 in
theorem took49_lo (h : RkAt w base own g r A c) (hbase : base ≤ w.heap.size) (port : Int) (x : S45) (A4 : Option Addr) (c4 : Nat) (h4 : Kd.C k42 w A4 x.f1.f3.length x.f1.f3) (hc4 : x.f1.f3.length ≤ c4) (A5 : Option Addr) (c5 : Nat) (h5 : Kd.C (Kd.int .i64) w A5 x.f2.length x.f2) (hc5 : x.f2.length ≤ c5) (hpr : partsR x ≤ 100000) (d0 : decide (port < 0) = true) : Calls Try.prog 49 #[.pointer (some ⟨g, 0, none⟩), .int .i64 port, .agg #[.string x.f0, .int .i64 x.f1.f0, .int .i64 x.f1.f1, .string x.f1.f2, .slice A4 x.f1.f3.length c4, .slice A5 x.f2.length c5]] w fun e w' => e = .returned (.int .i64 132) ∧ RkPost base own g r w w' := by
  have U0 : Hid (Below w.heap.size w (w.alloc (.cells #[.string x.f0, .int .i64 x.f1.f0, .int .i64 x.f1.f1, .string x.f1.f2, .slice A4 x.f1.f3.length c4, .slice A5 x.f2.length c5] 45))) := (Below.refl _ _).alloc (Nat.le_refl _) _
  have H0 : Hid (RkAt (w.alloc (.cells #[.string x.f0, .int .i64 x.f1.f0, .int .i64 x.f1.f1, .string x.f1.f2, .slice A4 x.f1.f3.length c4, .slice A5 x.f2.length c5] 45)) base own g r A c) := h.below U0.out
  have HH := Lib.hid (held53 H0.out port)
  have HX := Lib.hid h
  have Hbase := Lib.hid hbase
  have a1 : w.cell? ⟨g, 1, none⟩ = some (.int .i64 r.ports) := blk_at h.hb 1 rfl
  have hgl : g < w.heap.size := h.glt
  clear h hbase h4 hc4 h5 hc5 hpr
  go_enter Try.func49, Try.ntmps49
  go_wp2
  go_ret
  exact ⟨rfl, own, ⟨_, _, HX.out.below U0.out⟩, Upd.of_below U0.out (fun _ _ => rfl)⟩

set_option maxRecDepth 100000 in
set_option maxHeartbeats 4000000 in
theorem took49_hi (h : RkAt w base own g r A c) (hbase : base ≤ w.heap.size) (port : Int) (x : S45) (A4 : Option Addr) (c4 : Nat) (h4 : Kd.C k42 w A4 x.f1.f3.length x.f1.f3) (hc4 : x.f1.f3.length ≤ c4) (A5 : Option Addr) (c5 : Nat) (h5 : Kd.C (Kd.int .i64) w A5 x.f2.length x.f2) (hc5 : x.f2.length ≤ c5) (hpr : partsR x ≤ 100000) (d0 : decide (port < 0) = false) (d1 : decide (r.ports ≤ port) = true) : Calls Try.prog 49 #[.pointer (some ⟨g, 0, none⟩), .int .i64 port, .agg #[.string x.f0, .int .i64 x.f1.f0, .int .i64 x.f1.f1, .string x.f1.f2, .slice A4 x.f1.f3.length c4, .slice A5 x.f2.length c5]] w fun e w' => e = .returned (.int .i64 132) ∧ RkPost base own g r w w' := by
  have U0 : Hid (Below w.heap.size w (w.alloc (.cells #[.string x.f0, .int .i64 x.f1.f0, .int .i64 x.f1.f1, .string x.f1.f2, .slice A4 x.f1.f3.length c4, .slice A5 x.f2.length c5] 45))) := (Below.refl _ _).alloc (Nat.le_refl _) _
  have H0 : Hid (RkAt (w.alloc (.cells #[.string x.f0, .int .i64 x.f1.f0, .int .i64 x.f1.f1, .string x.f1.f2, .slice A4 x.f1.f3.length c4, .slice A5 x.f2.length c5] 45)) base own g r A c) := h.below U0.out
  have HH := Lib.hid (held53 H0.out port)
  have HX := Lib.hid h
  have Hbase := Lib.hid hbase
  have a1 : w.cell? ⟨g, 1, none⟩ = some (.int .i64 r.ports) := blk_at h.hb 1 rfl
  have hgl : g < w.heap.size := h.glt
  clear h hbase h4 hc4 h5 hc5 hpr
  go_enter Try.func49, Try.ntmps49
  go_wp2
  go_ret
  exact ⟨rfl, own, ⟨_, _, HX.out.below U0.out⟩, Upd.of_below U0.out (fun _ _ => rfl)⟩

set_option maxRecDepth 100000 in
set_option maxHeartbeats 4000000 in
theorem took49_held (h : RkAt w base own g r A c) (hbase : base ≤ w.heap.size) (port : Int) (x : S45) (A4 : Option Addr) (c4 : Nat) (h4 : Kd.C k42 w A4 x.f1.f3.length x.f1.f3) (hc4 : x.f1.f3.length ≤ c4) (A5 : Option Addr) (c5 : Nat) (h5 : Kd.C (Kd.int .i64) w A5 x.f2.length x.f2) (hc5 : x.f2.length ≤ c5) (hpr : partsR x ≤ 100000) (d0 : decide (port < 0) = false) (d1 : decide (r.ports ≤ port) = false) (hh : r.held port = true) : Calls Try.prog 49 #[.pointer (some ⟨g, 0, none⟩), .int .i64 port, .agg #[.string x.f0, .int .i64 x.f1.f0, .int .i64 x.f1.f1, .string x.f1.f2, .slice A4 x.f1.f3.length c4, .slice A5 x.f2.length c5]] w fun e w' => e = .returned (.int .i64 134) ∧ RkPost base own g r w w' := by
  have U0 : Hid (Below w.heap.size w (w.alloc (.cells #[.string x.f0, .int .i64 x.f1.f0, .int .i64 x.f1.f1, .string x.f1.f2, .slice A4 x.f1.f3.length c4, .slice A5 x.f2.length c5] 45))) := (Below.refl _ _).alloc (Nat.le_refl _) _
  have H0 : Hid (RkAt (w.alloc (.cells #[.string x.f0, .int .i64 x.f1.f0, .int .i64 x.f1.f1, .string x.f1.f2, .slice A4 x.f1.f3.length c4, .slice A5 x.f2.length c5] 45)) base own g r A c) := h.below U0.out
  have HH := Lib.hid (held53 H0.out port)
  have HX := Lib.hid h
  have Hbase := Lib.hid hbase
  have a1 : w.cell? ⟨g, 1, none⟩ = some (.int .i64 r.ports) := blk_at h.hb 1 rfl
  have hgl : g < w.heap.size := h.glt
  rw [hh] at HH
  clear h hbase h4 hc4 h5 hc5 hpr hh
  go_enter Try.func49, Try.ntmps49
  go_wp2_with (first
    | (go_at_call 53; refine HH.out.mono ?_; rintro e w1 ⟨rfl, hb1⟩
       have HB1 : Hid (Below w.heap.size w w1) := U0.out.trans (hb1.out.mono U0.out.size)
       clear hb1))
  go_ret
  exact ⟨rfl, own, ⟨_, _, HX.out.below HB1.out⟩, Upd.of_below HB1.out (fun _ _ => rfl)⟩

set_option maxRecDepth 100000 in
set_option maxHeartbeats 4000000 in
theorem took49_none (h : RkAt w base own g r A c) (hbase : base ≤ w.heap.size) (port : Int) (x : S45) (A4 : Option Addr) (c4 : Nat) (h4 : Kd.C k42 w A4 x.f1.f3.length x.f1.f3) (hc4 : x.f1.f3.length ≤ c4) (A5 : Option Addr) (c5 : Nat) (h5 : Kd.C (Kd.int .i64) w A5 x.f2.length x.f2) (hc5 : x.f2.length ≤ c5) (hpr : partsR x ≤ 100000) (d0 : decide (port < 0) = false) (d1 : decide (r.ports ≤ port) = false) (hh : r.held port = false) (hl : r.list.length = 0) : Calls Try.prog 49 #[.pointer (some ⟨g, 0, none⟩), .int .i64 port, .agg #[.string x.f0, .int .i64 x.f1.f0, .int .i64 x.f1.f1, .string x.f1.f2, .slice A4 x.f1.f3.length c4, .slice A5 x.f2.length c5]] w fun e w' => e = .returned (.int .i64 0) ∧ RkPost base own g r w w' := by
  have U0 : Hid (Below w.heap.size w (w.alloc (.cells #[.string x.f0, .int .i64 x.f1.f0, .int .i64 x.f1.f1, .string x.f1.f2, .slice A4 x.f1.f3.length c4, .slice A5 x.f2.length c5] 45))) := (Below.refl _ _).alloc (Nat.le_refl _) _
  have H0 : Hid (RkAt (w.alloc (.cells #[.string x.f0, .int .i64 x.f1.f0, .int .i64 x.f1.f1, .string x.f1.f2, .slice A4 x.f1.f3.length c4, .slice A5 x.f2.length c5] 45)) base own g r A c) := h.below U0.out
  have HH := Lib.hid (held53 H0.out port)
  have HX := Lib.hid h
  have Hbase := Lib.hid hbase
  have a1 : w.cell? ⟨g, 1, none⟩ = some (.int .i64 r.ports) := blk_at h.hb 1 rfl
  have hgl : g < w.heap.size := h.glt
  rw [hh] at HH
  obtain ⟨n, hn⟩ : ∃ n, n = r.list.length := ⟨_, rfl⟩
  have Hn := Lib.hid hn
  have a4 : Hid (w.cell? ⟨g, 4, none⟩ = some (.slice A n c)) := by rw [hn]; exact Lib.hid (blk_at h.hb 4 rfl)
  have hmx : n ≤ 9223372036854775807 := by rw [hn]; exact Kd.C_max (Kd.R_reads' h.hl).2.2
  obtain rfl : n = 0 := hn.trans hl
  clear h hbase h4 hc4 h5 hc5 hpr hh hn hl
  go_enter Try.func49, Try.ntmps49
  go_wp2_with (first
    | (go_at_call 53; refine HH.out.mono ?_; rintro e w1 ⟨rfl, hb1⟩
       have HB1 : Hid (Below w.heap.size w w1) := U0.out.trans (hb1.out.mono U0.out.size)
       have c4' : w1.cell? ⟨g, 4, none⟩ = some (.slice A 0 c) := (HB1.out.cell (World.block_lt_of_cell? w _ a4.out)).trans a4.out
       clear hb1))
  go_ret
  exact ⟨rfl, own, ⟨_, _, HX.out.below HB1.out⟩, Upd.of_below HB1.out (fun _ _ => rfl)⟩

set_option maxRecDepth 100000 in
set_option maxHeartbeats 4000000 in
theorem took49_log (h : RkAt w base own g r A c) (hbase : base ≤ w.heap.size) (port : Int) (x : S45) (A4 : Option Addr) (c4 : Nat) (h4 : Kd.C k42 w A4 x.f1.f3.length x.f1.f3) (hc4 : x.f1.f3.length ≤ c4) (A5 : Option Addr) (c5 : Nat) (h5 : Kd.C (Kd.int .i64) w A5 x.f2.length x.f2) (hc5 : x.f2.length ≤ c5) (hpr : partsR x ≤ 100000) (d0 : decide (port < 0) = false) (d1 : decide (r.ports ≤ port) = false) (hh : r.held port = false) (hl : 0 < r.list.length) (hll : r.list.length ≤ 100000000) : Calls Try.prog 49 #[.pointer (some ⟨g, 0, none⟩), .int .i64 port, .agg #[.string x.f0, .int .i64 x.f1.f0, .int .i64 x.f1.f1, .string x.f1.f2, .slice A4 x.f1.f3.length c4, .slice A5 x.f2.length c5]] w fun e w' => e = .returned (.int .i64 0) ∧ RkPost base own g (r.add (toldR port x)) w w' := by
  have U0 : Hid (Below w.heap.size w (w.alloc (.cells #[.string x.f0, .int .i64 x.f1.f0, .int .i64 x.f1.f1, .string x.f1.f2, .slice A4 x.f1.f3.length c4, .slice A5 x.f2.length c5] 45))) := (Below.refl _ _).alloc (Nat.le_refl _) _
  have H0 : Hid (RkAt (w.alloc (.cells #[.string x.f0, .int .i64 x.f1.f0, .int .i64 x.f1.f1, .string x.f1.f2, .slice A4 x.f1.f3.length c4, .slice A5 x.f2.length c5] 45)) base own g r A c) := h.below U0.out
  have HH := Lib.hid (held53 H0.out port)
  have HX := Lib.hid h
  have Hbase := Lib.hid hbase
  have a1 : w.cell? ⟨g, 1, none⟩ = some (.int .i64 r.ports) := blk_at h.hb 1 rfl
  have hgl : g < w.heap.size := h.glt
  rw [hh] at HH
  obtain ⟨n, hn⟩ : ∃ n, n = r.list.length := ⟨_, rfl⟩
  have Hn := Lib.hid hn
  have a4 : Hid (w.cell? ⟨g, 4, none⟩ = some (.slice A n c)) := by rw [hn]; exact Lib.hid (blk_at h.hb 4 rfl)
  have hmx : n ≤ 9223372036854775807 := by rw [hn]; exact Kd.C_max (Kd.R_reads' h.hl).2.2
  have hn0 : 0 < n := by omega
  have HLL : Hid (n ≤ 100000000) := by rw [hn]; exact Lib.hid hll
  have HR := Lib.hid h.hl
  rw [← hn] at HR
  have HX61 : Hid (∀ W : World, Below w.heap.size w W → Calls Try.prog 61 #[.agg #[.string x.f0, .int .i64 x.f1.f0, .int .i64 x.f1.f1, .string x.f1.f2, .slice A4 x.f1.f3.length c4, .slice A5 x.f2.length c5]] W fun e w' => ∃ v4 v5, e = .returned (.agg #[.string x.f0, .int .i64 x.f1.f0, .int .i64 x.f1.f1, .string x.f1.f2, v4, v5]) ∧ Hid (Kd.R k42 42 w' W.heap.size (fun _ => True) v4 x.f1.f3) ∧ Hid (Kd.R (Kd.int .i64) 3 w' W.heap.size (fun _ => True) v5 x.f2) ∧ Hid (Below W.heap.size W w')) := fun W hW => copyRecord61 x A4 c4 A5 c5 W (Kd.C_below h4 hW) hc4 (Kd.C_below h5 hW) hc5 hpr
  clear h hbase h4 hc4 h5 hc5 hpr hh hl hll hn
  go_enter Try.func49, Try.ntmps49
  go_wp2_with (first
    | (go_at_call 53; refine HH.out.mono ?_; rintro e w1 ⟨rfl, hb1⟩
       have HB1 : Hid (Below w.heap.size w w1) := U0.out.trans (hb1.out.mono U0.out.size)
       have c4' : w1.cell? ⟨g, 4, none⟩ = some (.slice A n c) := (HB1.out.cell (World.block_lt_of_cell? w _ a4.out)).trans a4.out
       have HBX : Hid (w1.heap[w.heap.size]? = some (.cells #[.string x.f0, .int .i64 x.f1.f0, .int .i64 x.f1.f1, .string x.f1.f2, .slice A4 x.f1.f3.length c4, .slice A5 x.f2.length c5] 45 (0, 0))) := (hb1.out.block _ (by simp)).trans (blk_new w _)
       clear hb1))
  clear c4'
  refine start_ (n := 14) (S := (fun w' => w'.cell? ⟨g, 4, none⟩ = some (.slice A n c) ∧ w'.cell? ⟨w.heap.size, 0, none⟩ = some (.string x.f0) ∧ w'.cell? ⟨w.heap.size, 1, none⟩ = some (.int .i64 x.f1.f0) ∧ w'.cell? ⟨w.heap.size, 2, none⟩ = some (.int .i64 x.f1.f1) ∧ w'.cell? ⟨w.heap.size, 3, none⟩ = some (.string x.f1.f2) ∧ w'.cell? ⟨w.heap.size, 4, none⟩ = some (.slice A4 x.f1.f3.length c4) ∧ w'.cell? ⟨w.heap.size, 5, none⟩ = some (.slice A5 x.f2.length c5))) (ds := [10, 13]) #[false, false, false, false, false, false, false, false, false, false, false, false, false, false] (by kernel_rfl) rfl rfl ⟨(HB1.out.drew.cell (World.block_lt_of_cell? w _ a4.out)).trans a4.out, (show (w1.drew).cell? ⟨w.heap.size, 0, none⟩ = some (.string x.f0) from blk_at HBX.out 0 rfl), (show (w1.drew).cell? ⟨w.heap.size, 1, none⟩ = some (.int .i64 x.f1.f0) from blk_at HBX.out 1 rfl), (show (w1.drew).cell? ⟨w.heap.size, 2, none⟩ = some (.int .i64 x.f1.f1) from blk_at HBX.out 2 rfl), (show (w1.drew).cell? ⟨w.heap.size, 3, none⟩ = some (.string x.f1.f2) from blk_at HBX.out 3 rfl), (show (w1.drew).cell? ⟨w.heap.size, 4, none⟩ = some (.slice A4 x.f1.f3.length c4) from blk_at HBX.out 4 rfl), (show (w1.drew).cell? ⟨w.heap.size, 5, none⟩ = some (.slice A5 x.f2.length c5) from blk_at HBX.out 5 rfl)⟩ (fun hHeld => ?_)
  have HBo : Hid (Below w.heap.size w w1.drew) := HB1.out.drew
  generalize w1.drew = W at hHeld HBo ⊢
  refine pure_ (i := 0) (N := some 28) (v := ?_) (a' := ?_) #[true, false, false, false, false, false, false, false, false, false, false, false, false, false] rfl rfl (by kernel_rfl) (fun _ _ _ h => h) (Or.inl ⟨by rfl, ?_⟩) ?_ ?_
  rotate_left
  · intro w'
    go_simp
    with_reducible rfl
  rotate_left
  · simp only [Act.put, List.setIfInBounds_toArray, List.set_cons_zero, List.set_cons_succ]
    rfl
  refine pure_ (i := 1) (N := some 29) (v := ?_) (a' := ?_) #[true, true, false, false, false, false, false, false, false, false, false, false, false, false] rfl rfl (by kernel_rfl) (fun _ _ _ h => h) (Or.inl ⟨by rfl, ?_⟩) ?_ ?_
  rotate_left
  · intro w'
    go_simp
    with_reducible rfl
  rotate_left
  · simp only [Act.put, List.setIfInBounds_toArray, List.set_cons_zero, List.set_cons_succ]
    rfl
  refine pure_ (i := 2) (N := some 30) (v := ?_) (a' := ?_) #[true, true, true, false, false, false, false, false, false, false, false, false, false, false] rfl rfl (by kernel_rfl) (fun _ _ _ h => h) (Or.inl ⟨by rfl, ?_⟩) ?_ ?_
  rotate_left
  · intro w'
    go_simp
    with_reducible rfl
  rotate_left
  · simp only [Act.put, List.setIfInBounds_toArray, List.set_cons_zero, List.set_cons_succ]
    rfl
  refine pure_ (i := 3) (N := some 31) (v := ?_) (a' := ?_) #[true, true, true, true, false, false, false, false, false, false, false, false, false, false] rfl rfl (by kernel_rfl) (fun _ _ _ h => h) (Or.inl ⟨by rfl, ?_⟩) ?_ ?_
  rotate_left
  · intro w'
    go_simp
    with_reducible rfl
  rotate_left
  · simp only [Act.put, List.setIfInBounds_toArray, List.set_cons_zero, List.set_cons_succ]
    rfl
  refine take_ (i := 4) (N := some 32) (v := ?_) (a' := ?_) #[true, true, true, true, true, false, false, false, false, false, false, false, false, false] rfl rfl (by kernel_rfl) (fun _ _ _ h => h) (Or.inl ⟨by rfl, ?_⟩) hHeld ?_ ?_
  rotate_left
  · rintro w' ⟨s0, s1, s2, s3, s4, s5, s6⟩
    go_simp
    with_reducible rfl
  rotate_left
  · simp only [Act.put, List.setIfInBounds_toArray, List.set_cons_zero, List.set_cons_succ]
    rfl
  refine pure_ (i := 5) (N := some 33) (v := ?_) (a' := ?_) #[true, true, true, true, true, true, false, false, false, false, false, false, false, false] rfl rfl (by kernel_rfl) (fun _ _ _ h => h) (Or.inl ⟨by rfl, ?_⟩) ?_ ?_
  rotate_left
  · intro w'
    go_simp
    with_reducible rfl
  rotate_left
  · simp only [Act.put, List.setIfInBounds_toArray, List.set_cons_zero, List.set_cons_succ]
    rfl
  refine take_ (i := 6) (N := some 34) (v := ?_) (a' := ?_) #[true, true, true, true, true, true, true, false, false, false, false, false, false, false] rfl rfl (by kernel_rfl) (fun _ _ _ h => h) (Or.inl ⟨by rfl, ?_⟩) hHeld ?_ ?_
  rotate_left
  · rintro w' ⟨s0, s1, s2, s3, s4, s5, s6⟩
    go_simp
    with_reducible rfl
  rotate_left
  · simp only [Act.put, List.setIfInBounds_toArray, List.set_cons_zero, List.set_cons_succ]
    rfl
  refine one_ (i := 7) (N := some 35) #[true, true, true, true, true, true, true, true, false, false, false, false, false, false] rfl rfl (by kernel_rfl) (by decide) (fun K hK => ?_)
  refine goes_ Try.func61 (by kernel_rfl) rfl #[.agg #[.string x.f0, .int .i64 x.f1.f0, .int .i64 x.f1.f1, .string x.f1.f2, .slice A4 x.f1.f3.length c4, .slice A5 x.f2.length c5]] (by rfl) rfl rfl (by simp only [List.map_toArray, List.map_cons, List.map_nil]; rfl) ?_
  refine (HX61.out W HBo.out).mono ?_
  rintro e w3 ⟨u4, u5, rfl, hu4, hu5, HB3⟩
  refine ⟨_, rfl, ?_⟩
  obtain ⟨B4, d4, rfl⟩ := Kd.R_slice hu4.out
  obtain ⟨B5, d5, rfl⟩ := Kd.R_slice hu5.out
  refine hK.out _ _ ⟨pw_cell_below HB3.out hHeld.1, pw_cell_below HB3.out hHeld.2.1, pw_cell_below HB3.out hHeld.2.2.1, pw_cell_below HB3.out hHeld.2.2.2.1, pw_cell_below HB3.out hHeld.2.2.2.2.1, pw_cell_below HB3.out hHeld.2.2.2.2.2.1, pw_cell_below HB3.out hHeld.2.2.2.2.2.2⟩ (fun hHeld => ?_)
  clear hK K
  refine norm_ (a' := ?_) ?_ ?_
  rotate_left
  · show Act.put _ (some 35) _ = _
    simp only [Act.put, List.setIfInBounds_toArray, List.set_cons_zero, List.set_cons_succ]
    rfl
  refine pure_ (i := 8) (N := some 36) (v := ?_) (a' := ?_) #[true, true, true, true, true, true, true, true, true, false, false, false, false, false] rfl rfl (by kernel_rfl) (fun _ _ _ h => h) (Or.inl ⟨by rfl, ?_⟩) ?_ ?_
  rotate_left
  · intro w'
    go_simp
    with_reducible rfl
  rotate_left
  · simp only [Act.put, List.setIfInBounds_toArray, List.set_cons_zero, List.set_cons_succ]
    rfl
  refine one_ (i := 9) (N := some 37) #[true, true, true, true, true, true, true, true, true, true, false, false, false, false] rfl rfl (by kernel_rfl) (by decide) (fun K hK => ?_)
  refine value_ (w1 := ?_) (v := ?_) (by rfl) rfl ?_ ?_
  rotate_left 2
  · go_simp
    constructor
    · rfl
    · rfl
  refine hK.out _ _ ⟨pw_cell_below ((Below.refl _ _).alloc (Nat.le_refl _) _) hHeld.1, pw_cell_below ((Below.refl _ _).alloc (Nat.le_refl _) _) hHeld.2.1, pw_cell_below ((Below.refl _ _).alloc (Nat.le_refl _) _) hHeld.2.2.1, pw_cell_below ((Below.refl _ _).alloc (Nat.le_refl _) _) hHeld.2.2.2.1, pw_cell_below ((Below.refl _ _).alloc (Nat.le_refl _) _) hHeld.2.2.2.2.1, pw_cell_below ((Below.refl _ _).alloc (Nat.le_refl _) _) hHeld.2.2.2.2.2.1, pw_cell_below ((Below.refl _ _).alloc (Nat.le_refl _) _) hHeld.2.2.2.2.2.2⟩ (fun hHeld => ?_)
  clear hK K
  refine norm_ (a' := ?_) ?_ ?_
  rotate_left
  · show Act.put _ (some 37) _ = _
    simp only [Act.put, List.setIfInBounds_toArray, List.set_cons_zero, List.set_cons_succ]
    rfl
  refine last_ (i := 10) (N := some 38) #[true, true, true, true, true, true, true, true, true, true, true, false, false, false] rfl rfl (by kernel_rfl) (by decide) (fun K hK => ?_)
  refine Kd.R_append_step k109 (w0 := w3) base (by rfl) (.tmp 32) (.tmp 37) 97 109 (.agg #[.int .i64 0, .int .i64 0, .string ⟨#[]⟩, .int .i64 0, .int .i64 0, .string ⟨#[]⟩, .slice none 0 0, .slice none 0 0, .slice none 0 0, .int .i64 0, .slice none 0 0, .slice none 0 0]) 192 rfl Try.underlying97 info109 rfl (by decide) (by decide) (.slice A n c) r.list (toldR port x) _ (fun k => own k = 2 ∨ w.heap.size ≤ k) (fun k => W.heap.size ≤ k) rfl rfl ?hp ?hok ?hfr ?hO (Below.refl _ _) ?hS ?hl ?_
  case hp => exact k109_mkM _ _ _ (toldR port x) (R_newer hu4.out (Nat.le_trans Hbase.out HBo.out.size)) (R_newer hu5.out (Nat.le_trans Hbase.out HBo.out.size)) (Kd.R_nil _ _ _ _ _) (Kd.R_nil _ _ _ _ _) (Kd.R_nil _ _ _ _ _)
  case hok => exact fun k hk => ⟨.inr (Nat.le_trans HBo.out.size hk), fun he => by have := Kd.R_lt HR.out k he.symm; have := HBo.out.size; omega⟩
  case hfr => exact fun k hk => .inr (Nat.le_trans HBo.out.size (Nat.le_trans HB3.out.size hk))
  case hO => exact Kd.R_below (Kd.R_below (Kd.R_mono HR.out (fun _ hk => .inl hk)) HBo.out) HB3.out
  case hS => exact Nat.le_trans Hbase.out (Nat.le_trans HBo.out.size HB3.out.size)
  case hl => have := HLL.out; rw [← Hn.out]; omega
  intro v1 w4 hO4 hB4 hg4 hat4
  obtain ⟨A1, m1, c1, rfl⟩ := R_sliced hO4
  rw [Hn.out] at hg4
  have HA := Lib.hid (HX.out.longer Hbase.out (HBo.out.trans (HB3.out.mono HBo.out.size)) hg4 hO4)
  have HG4 : Hid (w4.heap[g]? = some (.cells #[.int .i64 r.mode, .int .i64 r.ports, .int .i64 r.back, .int .i64 r.last, .slice A r.list.length c, .bool r.handed] 99 (0, 0))) := (hg4.block g (Nat.lt_of_lt_of_le HX.out.glt (Nat.le_trans HBo.out.size HB3.out.size)) HX.out.gne).trans ((HB3.out.block g (Nat.lt_of_lt_of_le HX.out.glt HBo.out.size)).trans ((HBo.out.block g HX.out.glt).trans HX.out.hb))
  clear hO4 hB4 hg4 hat4
  refine hK.out _ _ ?_
  clear hK K
  refine norm_ (a' := ?_) ?_ ?_
  rotate_left
  · show Act.put _ (some 38) _ = _
    simp only [Act.put, List.setIfInBounds_toArray, List.set_cons_zero, List.set_cons_succ]
    rfl
  refine pure_ (i := 11) (N := some 39) (v := ?_) (a' := ?_) #[true, true, true, true, true, true, true, true, true, true, true, true, false, false] rfl rfl (by kernel_rfl) (fun _ _ _ h => h) (Or.inl ⟨by rfl, ?_⟩) ?_ ?_
  rotate_left
  · intro w'
    go_simp
    with_reducible rfl
  rotate_left
  · simp only [Act.put, List.setIfInBounds_toArray, List.set_cons_zero, List.set_cons_succ]
    rfl
  refine pure_ (i := 12) (N := some 40) (v := ?_) (a' := ?_) #[true, true, true, true, true, true, true, true, true, true, true, true, true, false] rfl rfl (by kernel_rfl) (fun _ _ _ h => h) (Or.inl ⟨by rfl, ?_⟩) ?_ ?_
  rotate_left
  · intro w'
    go_simp
    with_reducible rfl
  rotate_left
  · simp only [Act.put, List.setIfInBounds_toArray, List.set_cons_zero, List.set_cons_succ]
    rfl
  refine last_ (i := 13) (N := none) #[true, true, true, true, true, true, true, true, true, true, true, true, true, true] rfl rfl (by kernel_rfl) (by decide) (fun K hK => ?_)
  have hs : w4.cell? ⟨g, 4, none⟩ = some (.slice A r.list.length c) := blk_at HG4.out 4 rfl
  have hf : w4.frozen? ⟨g, 4, none⟩ = false := blk_frozen HG4.out 4
  refine skip_ (w1 := ?_) (by rfl) rfl ?_ ?_
  rotate_left
  · go_simp
    rfl
  refine hK.out _ _ ?_
  clear hK K hs hf
  refine done_ (by kernel_rfl) ?_
  clear hHeld
  have H4 := Lib.hid HA.out.1
  have U4 := Lib.hid HA.out.2
  clear HA
  go_wp2
  go_ret
  exact ⟨rfl, _, ⟨_, _, H4.out⟩, U4.out⟩

theorem took49 (h : RkAt w base own g r A c) (hbase : base ≤ w.heap.size) (port : Int) (x : S45) (A4 : Option Addr) (c4 : Nat) (h4 : Kd.C k42 w A4 x.f1.f3.length x.f1.f3) (hc4 : x.f1.f3.length ≤ c4) (A5 : Option Addr) (c5 : Nat) (h5 : Kd.C (Kd.int .i64) w A5 x.f2.length x.f2) (hc5 : x.f2.length ≤ c5) (hpr : partsR x ≤ 100000) (hll : r.list.length ≤ 100000000) : Calls Try.prog 49 #[.pointer (some ⟨g, 0, none⟩), .int .i64 port, .agg #[.string x.f0, .int .i64 x.f1.f0, .int .i64 x.f1.f1, .string x.f1.f2, .slice A4 x.f1.f3.length c4, .slice A5 x.f2.length c5]] w fun e w' => e = .returned (.int .i64 (r.tookE port)) ∧ RkPost base own g (r.took port x) w w' := by
  by_cases a0 : port < 0
  · have hE : r.tookE port = 132 := by unfold Rk.tookE; rw [if_pos (.inl a0)]
    rw [hE, show r.took port x = r by unfold Rk.took; rw [hE]; simp]
    exact took49_lo h hbase port x A4 c4 h4 hc4 A5 c5 h5 hc5 hpr (decide_eq_true a0)
  by_cases a1 : r.ports ≤ port
  · have hE : r.tookE port = 132 := by unfold Rk.tookE; rw [if_pos (.inr a1)]
    rw [hE, show r.took port x = r by unfold Rk.took; rw [hE]; simp]
    exact took49_hi h hbase port x A4 c4 h4 hc4 A5 c5 h5 hc5 hpr (decide_eq_false a0) (decide_eq_true a1)
  have na : ¬ (port < 0 ∨ r.ports ≤ port) := by omega
  rcases hh : r.held port with _ | _
  · have hE : r.tookE port = 0 := by unfold Rk.tookE; rw [if_neg na, hh]; rfl
    by_cases hl : r.list.length = 0
    · rw [hE, show r.took port x = r by unfold Rk.took; rw [if_neg (by omega)]]
      exact took49_none h hbase port x A4 c4 h4 hc4 A5 c5 h5 hc5 hpr (decide_eq_false a0) (decide_eq_false a1) hh hl
    · rw [hE, show r.took port x = r.add (toldR port x) by unfold Rk.took; rw [if_pos ⟨hE, by omega⟩]]
      exact took49_log h hbase port x A4 c4 h4 hc4 A5 c5 h5 hc5 hpr (decide_eq_false a0) (decide_eq_false a1) hh (by omega) hll
  · have hE : r.tookE port = 134 := by unfold Rk.tookE; rw [if_neg na, hh]; rfl
    rw [hE, show r.took port x = r by unfold Rk.took; rw [hE]; simp]
    exact took49_held h hbase port x A4 c4 h4 hc4 A5 c5 h5 hc5 hpr (decide_eq_false a0) (decide_eq_false a1) hh
end
end Go.Proofs.Ytomfknblehkocaa.C
