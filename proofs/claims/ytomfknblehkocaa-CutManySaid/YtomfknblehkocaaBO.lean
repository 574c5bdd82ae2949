/- Took, walked. -/
import Derived.Test.YtomfknblehkocaaBN
namespace Go.Proofs.Ytomfknblehkocaa.C
open Go.RowKit Go.Proofs.YtomfknblehkocaaW.PrintWords Go.Proofs.YtomfknblehkocaaW.PrintLast
set_option linter.unusedVariables false
set_option linter.unusedSimpArgs false
def Bk.tookE (b : Bk) (port : Int) : Int := if b.knows port = false then 132 else if b.held port = true then 134 else 0
def Bk.took (b : Bk) (port : Int) (r : S45) : Bk := if (b.tookE port == 0 && b.copied && b.ports.getD port.toNat 0 == 0) = true then b.logged port.toNat [r] else b
section
variable {w : World} {base : Nat} {own : Nat → Nat} {g : Nat} {b : Bk} {gp gl : Nat} {vc vd : Value} {lv : List Value}
theorem R_newer {α : Type} {d : Kd α} {e B : Nat} {v : Value} {xs : List α} (h : d.R e w B (fun _ => True) v xs) (hb : base ≤ B) : d.R e w base (fun k => B ≤ k) v xs := Kd.R_lower (Kd.R_mono (Kd.R_bound h) (fun k hk => hk.2.1)) hb
theorem took_box {α : Type} {d : Kd α} {e : Nat} {ok : Nat → Prop} {o : Obj} {W w3 w4 : World} {v : Value} {xs : List α} (h : d.R e w base ok v xs) (hb0 : Below (w.heap.size + 1) (w.alloc o) W) (hb : Below W.heap.size W w3) (hg : w3.grownBy w4 v.ownBlock) : w4.heap[w.heap.size]? = some o := by
  have s0 := hb0.size
  have s1 := hb.size
  have s2 := hg.size
  simp only [World.size_alloc] at s0
  refine (hg.block _ (by omega) (fun he => ?_)).trans ((hb.block _ (by omega)).trans ((hb0.block _ (by omega)).trans (blk_new w o)))
  have := Kd.R_lt h _ he.symm
  omega
set_option maxRecDepth 100000 in
set_option maxHeartbeats 4000000 in
theorem took18_port (h : BkAt w base own g b gp gl vc vd lv) (hbase : base ≤ w.heap.size) (port : Int) (r : S45) (A4 : Option Addr) (c4 : Nat) (h4 : Away k42 own w A4 r.f1.f3) (hc4 : r.f1.f3.length ≤ c4) (A5 : Option Addr) (c5 : Nat) (h5 : Away (Kd.int .i64) own w A5 r.f2) (hc5 : r.f2.length ≤ c5) (hpr : partsR r ≤ 100000) (hll : ∀ i, (b.logs.getD i []).length + 1 ≤ 1000000000000) (hk : b.knows port = false) :
    Calls Try.prog 18 #[.pointer (some ⟨g, 0, none⟩), .int .i64 port, .agg #[.string r.f0, .int .i64 r.f1.f0, .int .i64 r.f1.f1, .string r.f1.f2, .slice A4 r.f1.f3.length c4, .slice A5 r.f2.length c5]] w fun e w' => e = .returned (.int .i64 132) ∧ BkPost base own g b w w' := by
  have H := Lib.hid h
  have Hbase := Lib.hid hbase
  obtain ⟨l1, l2, l3⟩ := h.lts
  have Hll := Lib.hid hll
  have U0 : Hid (Upd own w own (w.alloc (.cells #[.string r.f0, .int .i64 r.f1.f0, .int .i64 r.f1.f1, .string r.f1.f2, .slice A4 r.f1.f3.length c4, .slice A5 r.f2.length c5] 45))) := Upd.of_below ((Below.refl _ _).alloc (Nat.le_refl _) _) (fun _ _ => rfl)
  have H0 : Hid (BkAt (w.alloc (.cells #[.string r.f0, .int .i64 r.f1.f0, .int .i64 r.f1.f1, .string r.f1.f2, .slice A4 r.f1.f3.length c4, .slice A5 r.f2.length c5] 45)) base own g b gp gl vc vd lv) := h.below ((Below.refl _ _).alloc (Nat.le_refl _) _)
  have HK := Lib.hid (known39 H0.out port)
  have HH := Lib.hid (held29 H0.out port)
  have a3 : w.cell? ⟨g, 3, none⟩ = some (.slice (some ⟨gp, 0, none⟩) b.ports.length b.ports.length) := h.facts.2.2.2.1
  have a5 : w.cell? ⟨g, 5, none⟩ = some (.bool b.copied) := h.facts.2.2.2.2.2.1
  rw [hk] at HK
  clear h hbase h4 hc4 h5 hc5 hpr hll hk
  go_enter Try.func18, Try.ntmps18
  go_wp2_with (first
    | (go_at_call 39; refine HK.out.mono ?_; rintro e w' ⟨rfl, rfl⟩)
    | (go_at_call 29; refine HH.out.mono ?_; rintro e w' ⟨rfl, rfl⟩))
  go_ret
  exact ⟨rfl, own, ⟨_, _, _, _, _, H0.out⟩, U0.out⟩
set_option maxRecDepth 100000 in
set_option maxHeartbeats 4000000 in
theorem took18_held (h : BkAt w base own g b gp gl vc vd lv) (hbase : base ≤ w.heap.size) (port : Int) (r : S45) (A4 : Option Addr) (c4 : Nat) (h4 : Away k42 own w A4 r.f1.f3) (hc4 : r.f1.f3.length ≤ c4) (A5 : Option Addr) (c5 : Nat) (h5 : Away (Kd.int .i64) own w A5 r.f2) (hc5 : r.f2.length ≤ c5) (hpr : partsR r ≤ 100000) (hll : ∀ i, (b.logs.getD i []).length + 1 ≤ 1000000000000) (hk : b.knows port = true) (hh : b.held port = true) :
    Calls Try.prog 18 #[.pointer (some ⟨g, 0, none⟩), .int .i64 port, .agg #[.string r.f0, .int .i64 r.f1.f0, .int .i64 r.f1.f1, .string r.f1.f2, .slice A4 r.f1.f3.length c4, .slice A5 r.f2.length c5]] w fun e w' => e = .returned (.int .i64 134) ∧ BkPost base own g b w w' := by
  have H := Lib.hid h
  have Hbase := Lib.hid hbase
  obtain ⟨l1, l2, l3⟩ := h.lts
  have Hll := Lib.hid hll
  have U0 : Hid (Upd own w own (w.alloc (.cells #[.string r.f0, .int .i64 r.f1.f0, .int .i64 r.f1.f1, .string r.f1.f2, .slice A4 r.f1.f3.length c4, .slice A5 r.f2.length c5] 45))) := Upd.of_below ((Below.refl _ _).alloc (Nat.le_refl _) _) (fun _ _ => rfl)
  have H0 : Hid (BkAt (w.alloc (.cells #[.string r.f0, .int .i64 r.f1.f0, .int .i64 r.f1.f1, .string r.f1.f2, .slice A4 r.f1.f3.length c4, .slice A5 r.f2.length c5] 45)) base own g b gp gl vc vd lv) := h.below ((Below.refl _ _).alloc (Nat.le_refl _) _)
  have HK := Lib.hid (known39 H0.out port)
  have HH := Lib.hid (held29 H0.out port)
  have a3 : w.cell? ⟨g, 3, none⟩ = some (.slice (some ⟨gp, 0, none⟩) b.ports.length b.ports.length) := h.facts.2.2.2.1
  have a5 : w.cell? ⟨g, 5, none⟩ = some (.bool b.copied) := h.facts.2.2.2.2.2.1
  rw [hk] at HK
  rw [hh] at HH
  clear h hbase h4 hc4 h5 hc5 hpr hll hk hh
  go_enter Try.func18, Try.ntmps18
  go_wp2_with (first
    | (go_at_call 39; refine HK.out.mono ?_; rintro e w' ⟨rfl, rfl⟩)
    | (go_at_call 29; refine HH.out.mono ?_; rintro e w' ⟨rfl, rfl⟩))
  go_ret
  exact ⟨rfl, own, ⟨_, _, _, _, _, H0.out⟩, U0.out⟩
set_option maxRecDepth 100000 in
set_option maxHeartbeats 4000000 in
theorem took18_before (h : BkAt w base own g b gp gl vc vd lv) (hbase : base ≤ w.heap.size) (p : Nat) (hp : p < b.ports.length) (r : S45) (A4 : Option Addr) (c4 : Nat) (h4 : Away k42 own w A4 r.f1.f3) (hc4 : r.f1.f3.length ≤ c4) (A5 : Option Addr) (c5 : Nat) (h5 : Away (Kd.int .i64) own w A5 r.f2) (hc5 : r.f2.length ≤ c5) (hpr : partsR r ≤ 100000) (hll : ∀ i, (b.logs.getD i []).length + 1 ≤ 1000000000000) (hk : b.knows p = true) (hh : b.held p = false) (hc : b.copied = false) :
    Calls Try.prog 18 #[.pointer (some ⟨g, 0, none⟩), .int .i64 p, .agg #[.string r.f0, .int .i64 r.f1.f0, .int .i64 r.f1.f1, .string r.f1.f2, .slice A4 r.f1.f3.length c4, .slice A5 r.f2.length c5]] w fun e w' => e = .returned (.int .i64 0) ∧ BkPost base own g b w w' := by
  have H := Lib.hid h
  have Hbase := Lib.hid hbase
  obtain ⟨l1, l2, l3⟩ := h.lts
  have Hll := Lib.hid hll
  have U0 : Hid (Upd own w own (w.alloc (.cells #[.string r.f0, .int .i64 r.f1.f0, .int .i64 r.f1.f1, .string r.f1.f2, .slice A4 r.f1.f3.length c4, .slice A5 r.f2.length c5] 45))) := Upd.of_below ((Below.refl _ _).alloc (Nat.le_refl _) _) (fun _ _ => rfl)
  have H0 : Hid (BkAt (w.alloc (.cells #[.string r.f0, .int .i64 r.f1.f0, .int .i64 r.f1.f1, .string r.f1.f2, .slice A4 r.f1.f3.length c4, .slice A5 r.f2.length c5] 45)) base own g b gp gl vc vd lv) := h.below ((Below.refl _ _).alloc (Nat.le_refl _) _)
  have HK := Lib.hid (known39 H0.out p)
  have HH := Lib.hid (held29 H0.out p)
  have a3 : w.cell? ⟨g, 3, none⟩ = some (.slice (some ⟨gp, 0, none⟩) b.ports.length b.ports.length) := h.facts.2.2.2.1
  have a5 : w.cell? ⟨g, 5, none⟩ = some (.bool b.copied) := h.facts.2.2.2.2.2.1
  rw [hk] at HK
  rw [hh] at HH
  rw [hc] at a5
  clear h hbase h4 hc4 h5 hc5 hpr hll hk hh hc
  go_enter Try.func18, Try.ntmps18
  go_wp2_with (first
    | (go_at_call 39; refine HK.out.mono ?_; rintro e w' ⟨rfl, rfl⟩)
    | (go_at_call 29; refine HH.out.mono ?_; rintro e w' ⟨rfl, rfl⟩))
  go_ret
  exact ⟨rfl, own, ⟨_, _, _, _, _, H0.out⟩, U0.out⟩
set_option maxRecDepth 100000 in
set_option maxHeartbeats 4000000 in
theorem took18_behind (h : BkAt w base own g b gp gl vc vd lv) (hbase : base ≤ w.heap.size) (p : Nat) (hp : p < b.ports.length) (r : S45) (A4 : Option Addr) (c4 : Nat) (h4 : Away k42 own w A4 r.f1.f3) (hc4 : r.f1.f3.length ≤ c4) (A5 : Option Addr) (c5 : Nat) (h5 : Away (Kd.int .i64) own w A5 r.f2) (hc5 : r.f2.length ≤ c5) (hpr : partsR r ≤ 100000) (hll : ∀ i, (b.logs.getD i []).length + 1 ≤ 1000000000000) (hk : b.knows p = true) (hh : b.held p = false) (hc : b.copied = true) (hq : ¬ b.ports.getD p 0 = 0) :
    Calls Try.prog 18 #[.pointer (some ⟨g, 0, none⟩), .int .i64 p, .agg #[.string r.f0, .int .i64 r.f1.f0, .int .i64 r.f1.f1, .string r.f1.f2, .slice A4 r.f1.f3.length c4, .slice A5 r.f2.length c5]] w fun e w' => e = .returned (.int .i64 0) ∧ BkPost base own g b w w' := by
  have H := Lib.hid h
  have Hbase := Lib.hid hbase
  obtain ⟨l1, l2, l3⟩ := h.lts
  have Hll := Lib.hid hll
  have U0 : Hid (Upd own w own (w.alloc (.cells #[.string r.f0, .int .i64 r.f1.f0, .int .i64 r.f1.f1, .string r.f1.f2, .slice A4 r.f1.f3.length c4, .slice A5 r.f2.length c5] 45))) := Upd.of_below ((Below.refl _ _).alloc (Nat.le_refl _) _) (fun _ _ => rfl)
  have H0 : Hid (BkAt (w.alloc (.cells #[.string r.f0, .int .i64 r.f1.f0, .int .i64 r.f1.f1, .string r.f1.f2, .slice A4 r.f1.f3.length c4, .slice A5 r.f2.length c5] 45)) base own g b gp gl vc vd lv) := h.below ((Below.refl _ _).alloc (Nat.le_refl _) _)
  have HK := Lib.hid (known39 H0.out p)
  have HH := Lib.hid (held29 H0.out p)
  have a3 : w.cell? ⟨g, 3, none⟩ = some (.slice (some ⟨gp, 0, none⟩) b.ports.length b.ports.length) := h.facts.2.2.2.1
  have a5 : w.cell? ⟨g, 5, none⟩ = some (.bool b.copied) := h.facts.2.2.2.2.2.1
  rw [hk] at HK
  rw [hh] at HH
  rw [hc] at a5
  have cp := h.port p hp
  have i5 : (b.ports.getD p 0 == 0) = false := beq_false_of_ne hq
  generalize b.ports.getD p 0 = q at cp i5
  clear h hbase h4 hc4 h5 hc5 hpr hll hk hh hc hq
  go_enter Try.func18, Try.ntmps18
  go_wp2_with (first
    | (go_at_call 39; refine HK.out.mono ?_; rintro e w' ⟨rfl, rfl⟩)
    | (go_at_call 29; refine HH.out.mono ?_; rintro e w' ⟨rfl, rfl⟩))
  go_ret
  exact ⟨rfl, own, ⟨_, _, _, _, _, H0.out⟩, U0.out⟩
set_option maxRecDepth 100000 in
set_option maxHeartbeats 4000000 in
theorem took18_log (h : BkAt w base own g b gp gl vc vd lv) (hbase : base ≤ w.heap.size) (p : Nat) (hp : p < b.ports.length) (r : S45) (A4 : Option Addr) (c4 : Nat) (h4 : Away k42 own w A4 r.f1.f3) (hc4 : r.f1.f3.length ≤ c4) (A5 : Option Addr) (c5 : Nat) (h5 : Away (Kd.int .i64) own w A5 r.f2) (hc5 : r.f2.length ≤ c5) (hpr : partsR r ≤ 100000) (hll : ∀ i, (b.logs.getD i []).length + 1 ≤ 1000000000000) (hk : b.knows p = true) (hh : b.held p = false) (hc : b.copied = true) (hq : b.ports.getD p 0 = 0) :
    Calls Try.prog 18 #[.pointer (some ⟨g, 0, none⟩), .int .i64 p, .agg #[.string r.f0, .int .i64 r.f1.f0, .int .i64 r.f1.f1, .string r.f1.f2, .slice A4 r.f1.f3.length c4, .slice A5 r.f2.length c5]] w fun e w' => e = .returned (.int .i64 0) ∧ BkPost base own g (b.logged p [r]) w w' := by
  have H := Lib.hid h
  have Hbase := Lib.hid hbase
  obtain ⟨l1, l2, l3⟩ := h.lts
  have Hll := Lib.hid hll
  have U0 : Hid (Upd own w own (w.alloc (.cells #[.string r.f0, .int .i64 r.f1.f0, .int .i64 r.f1.f1, .string r.f1.f2, .slice A4 r.f1.f3.length c4, .slice A5 r.f2.length c5] 45))) := Upd.of_below ((Below.refl _ _).alloc (Nat.le_refl _) _) (fun _ _ => rfl)
  have H0 : Hid (BkAt (w.alloc (.cells #[.string r.f0, .int .i64 r.f1.f0, .int .i64 r.f1.f1, .string r.f1.f2, .slice A4 r.f1.f3.length c4, .slice A5 r.f2.length c5] 45)) base own g b gp gl vc vd lv) := h.below ((Below.refl _ _).alloc (Nat.le_refl _) _)
  have HK := Lib.hid (known39 H0.out p)
  have HH := Lib.hid (held29 H0.out p)
  rw [hk] at HK
  rw [hh] at HH
  have a3 : w.cell? ⟨g, 3, none⟩ = some (.slice (some ⟨gp, 0, none⟩) b.ports.length b.ports.length) := h.facts.2.2.2.1
  have a4 : w.cell? ⟨g, 4, none⟩ = some (.slice (some ⟨gl, 0, none⟩) b.ports.length b.ports.length) := h.facts.2.2.2.2.1
  have a5 : w.cell? ⟨g, 5, none⟩ = some (.bool b.copied) := h.facts.2.2.2.2.2.1
  rw [hc] at a5
  have cp := h.port p hp
  rw [hq] at cp
  obtain ⟨vp, hvp⟩ : ∃ vp, lv.getD p (.slice none 0 0) = vp := ⟨_, rfl⟩
  have cl : w.cell? ⟨gl, p, none⟩ = some vp := (h.log p hp).trans (congrArg some hvp)
  have HRp : Hid (Kd.R k45 45 w base (fun k => own k = 6 + p) vp (b.logs.getD p [])) := hvp ▸ h.rl p hp
  have Hvp := Lib.hid hvp
  have HX40 : Hid (∀ W : World, Below w.heap.size w W → Calls Try.prog 40 #[.agg #[.string r.f0, .int .i64 r.f1.f0, .int .i64 r.f1.f1, .string r.f1.f2, .slice A4 r.f1.f3.length c4, .slice A5 r.f2.length c5]] W fun e w' => ∃ v4 v5, e = .returned (.agg #[.string r.f0, .int .i64 r.f1.f0, .int .i64 r.f1.f1, .string r.f1.f2, v4, v5]) ∧ Hid (Kd.R k42 42 w' W.heap.size (fun _ => True) v4 r.f1.f3) ∧ Hid (Kd.R (Kd.int .i64) 3 w' W.heap.size (fun _ => True) v5 r.f2) ∧ Hid (Below W.heap.size W w')) := fun W hW => ownRecord40 r A4 c4 A5 c5 W (Kd.C_below h4.now hW) hc4 (Kd.C_below h5.now hW) hc5 hpr
  clear h hbase h4 hc4 h5 hc5 hpr hll hk hh hvp hc hq
  go_enter Try.func18, Try.ntmps18
  go_wp2_with (first
    | (go_at_call 39; refine HK.out.mono ?_; rintro e w' ⟨rfl, rfl⟩)
    | (go_at_call 29; refine HH.out.mono ?_; rintro e w' ⟨rfl, rfl⟩))
  refine start_ (n := 20) (S := (fun w' => w'.cell? ⟨g, 4, none⟩ = some (.slice (some ⟨gl, 0, none⟩) b.ports.length b.ports.length) ∧ w'.cell? ⟨gl, p, none⟩ = some vp ∧ w'.cell? ⟨w.heap.size, 0, none⟩ = some (.string r.f0) ∧ w'.cell? ⟨w.heap.size, 1, none⟩ = some (.int .i64 r.f1.f0) ∧ w'.cell? ⟨w.heap.size, 2, none⟩ = some (.int .i64 r.f1.f1) ∧ w'.cell? ⟨w.heap.size, 3, none⟩ = some (.string r.f1.f2) ∧ w'.cell? ⟨w.heap.size, 4, none⟩ = some (.slice A4 r.f1.f3.length c4) ∧ w'.cell? ⟨w.heap.size, 5, none⟩ = some (.slice A5 r.f2.length c5))) (ds := [19]) #[false, false, false, false, false, false, false, false, false, false, false, false, false, false, false, false, false, false, false, false] (by kernel_rfl) rfl rfl ⟨pw_cell_below (((Below.refl _ _).alloc (Nat.le_refl _) _).drew) a4, pw_cell_below (((Below.refl _ _).alloc (Nat.le_refl _) _).drew) cl, blk_at (blk_new w _) 0 rfl, blk_at (blk_new w _) 1 rfl, blk_at (blk_new w _) 2 rfl, blk_at (blk_new w _) 3 rfl, blk_at (blk_new w _) 4 rfl, blk_at (blk_new w _) 5 rfl⟩ (fun hHeld => ?_)
  have HBo : Hid (Below w.heap.size w (w.alloc (.cells #[.string r.f0, .int .i64 r.f1.f0, .int .i64 r.f1.f1, .string r.f1.f2, .slice A4 r.f1.f3.length c4, .slice A5 r.f2.length c5] 45)).drew) := (((Below.refl _ _).alloc (Nat.le_refl _) _).drew)
  have HBo0 : Hid (Below (w.heap.size + 1) (w.alloc (.cells #[.string r.f0, .int .i64 r.f1.f0, .int .i64 r.f1.f1, .string r.f1.f2, .slice A4 r.f1.f3.length c4, .slice A5 r.f2.length c5] 45)) (w.alloc (.cells #[.string r.f0, .int .i64 r.f1.f0, .int .i64 r.f1.f1, .string r.f1.f2, .slice A4 r.f1.f3.length c4, .slice A5 r.f2.length c5] 45)).drew) := (Below.refl _ _).drew
  generalize (w.alloc (.cells #[.string r.f0, .int .i64 r.f1.f0, .int .i64 r.f1.f1, .string r.f1.f2, .slice A4 r.f1.f3.length c4, .slice A5 r.f2.length c5] 45)).drew = W at hHeld HBo HBo0 ⊢
  refine pure_ (i := 0) (N := some 33) (v := ?_) (a' := ?_) #[true, false, false, false, false, false, false, false, false, false, false, false, false, false, false, false, false, false, false, false] rfl rfl (by kernel_rfl) (fun _ _ _ h => h) (Or.inl ⟨by rfl, ?_⟩) ?_ ?_
  rotate_left
  · intro w'
    go_simp
    with_reducible rfl
  rotate_left
  · simp only [Act.put, List.setIfInBounds_toArray, List.set_cons_zero, List.set_cons_succ]
    rfl
  refine pure_ (i := 1) (N := some 34) (v := ?_) (a' := ?_) #[true, true, false, false, false, false, false, false, false, false, false, false, false, false, false, false, false, false, false, false] rfl rfl (by kernel_rfl) (fun _ _ _ h => h) (Or.inl ⟨by rfl, ?_⟩) ?_ ?_
  rotate_left
  · intro w'
    go_simp
    with_reducible rfl
  rotate_left
  · simp only [Act.put, List.setIfInBounds_toArray, List.set_cons_zero, List.set_cons_succ]
    rfl
  refine pure_ (i := 2) (N := some 35) (v := ?_) (a' := ?_) #[true, true, true, false, false, false, false, false, false, false, false, false, false, false, false, false, false, false, false, false] rfl rfl (by kernel_rfl) (fun _ _ _ h => h) (Or.inl ⟨by rfl, ?_⟩) ?_ ?_
  rotate_left
  · intro w'
    go_simp
    with_reducible rfl
  rotate_left
  · simp only [Act.put, List.setIfInBounds_toArray, List.set_cons_zero, List.set_cons_succ]
    rfl
  refine pure_ (i := 3) (N := some 36) (v := ?_) (a' := ?_) #[true, true, true, true, false, false, false, false, false, false, false, false, false, false, false, false, false, false, false, false] rfl rfl (by kernel_rfl) (fun _ _ _ h => h) (Or.inl ⟨by rfl, ?_⟩) ?_ ?_
  rotate_left
  · intro w'
    go_simp
    with_reducible rfl
  rotate_left
  · simp only [Act.put, List.setIfInBounds_toArray, List.set_cons_zero, List.set_cons_succ]
    rfl
  refine take_ (i := 4) (N := some 37) (v := ?_) (a' := ?_) #[true, true, true, true, true, false, false, false, false, false, false, false, false, false, false, false, false, false, false, false] rfl rfl (by kernel_rfl) (fun _ _ _ h => h) (Or.inl ⟨by rfl, ?_⟩) hHeld ?_ ?_
  rotate_left
  · rintro w' ⟨s0, s1, s2, s3, s4, s5, s6, s7⟩
    go_simp
    with_reducible rfl
  rotate_left
  · simp only [Act.put, List.setIfInBounds_toArray, List.set_cons_zero, List.set_cons_succ]
    rfl
  refine pure_ (i := 5) (N := some 38) (v := ?_) (a' := ?_) #[true, true, true, true, true, true, false, false, false, false, false, false, false, false, false, false, false, false, false, false] rfl rfl (by kernel_rfl) (fun _ _ _ h => h) (Or.inl ⟨by rfl, ?_⟩) ?_ ?_
  rotate_left
  · intro w'
    go_simp
    with_reducible rfl
  rotate_left
  · simp only [Act.put, List.setIfInBounds_toArray, List.set_cons_zero, List.set_cons_succ]
    rfl
  refine pure_ (i := 6) (N := some 39) (v := ?_) (a' := ?_) #[true, true, true, true, true, true, true, false, false, false, false, false, false, false, false, false, false, false, false, false] rfl rfl (by kernel_rfl) (fun _ _ _ h => h) (Or.inl ⟨by rfl, ?_⟩) ?_ ?_
  rotate_left
  · intro w'
    go_simp
    with_reducible rfl
  rotate_left
  · simp only [Act.put, List.setIfInBounds_toArray, List.set_cons_zero, List.set_cons_succ]
    rfl
  refine pure_ (i := 7) (N := some 40) (v := ?_) (a' := ?_) #[true, true, true, true, true, true, true, true, false, false, false, false, false, false, false, false, false, false, false, false] rfl rfl (by kernel_rfl) (fun _ _ _ h => h) (Or.inl ⟨by rfl, ?_⟩) ?_ ?_
  rotate_left
  · intro w'
    go_simp
    with_reducible rfl
  rotate_left
  · simp only [Act.put, List.setIfInBounds_toArray, List.set_cons_zero, List.set_cons_succ]
    rfl
  refine pure_ (i := 8) (N := some 41) (v := ?_) (a' := ?_) #[true, true, true, true, true, true, true, true, true, false, false, false, false, false, false, false, false, false, false, false] rfl rfl (by kernel_rfl) (fun _ _ _ h => h) (Or.inl ⟨by rfl, ?_⟩) ?_ ?_
  rotate_left
  · intro w'
    go_simp
    with_reducible rfl
  rotate_left
  · simp only [Act.put, List.setIfInBounds_toArray, List.set_cons_zero, List.set_cons_succ]
    rfl
  refine pure_ (i := 9) (N := some 42) (v := ?_) (a' := ?_) #[true, true, true, true, true, true, true, true, true, true, false, false, false, false, false, false, false, false, false, false] rfl rfl (by kernel_rfl) (fun _ _ _ h => h) (Or.inl ⟨by rfl, ?_⟩) ?_ ?_
  rotate_left
  · intro w'
    go_simp
    with_reducible rfl
  rotate_left
  · simp only [Act.put, List.setIfInBounds_toArray, List.set_cons_zero, List.set_cons_succ]
    rfl
  refine take_ (i := 10) (N := some 43) (v := ?_) (a' := ?_) #[true, true, true, true, true, true, true, true, true, true, true, false, false, false, false, false, false, false, false, false] rfl rfl (by kernel_rfl) (fun _ _ _ h => h) (Or.inl ⟨by rfl, ?_⟩) hHeld ?_ ?_
  rotate_left
  · rintro w' ⟨s0, s1, s2, s3, s4, s5, s6, s7⟩
    go_simp
    with_reducible rfl
  rotate_left
  · simp only [Act.put, List.setIfInBounds_toArray, List.set_cons_zero, List.set_cons_succ]
    rfl
  refine pure_ (i := 11) (N := some 44) (v := ?_) (a' := ?_) #[true, true, true, true, true, true, true, true, true, true, true, true, false, false, false, false, false, false, false, false] rfl rfl (by kernel_rfl) (fun _ _ _ h => h) (Or.inl ⟨by rfl, ?_⟩) ?_ ?_
  rotate_left
  · intro w'
    go_simp
    with_reducible rfl
  rotate_left
  · simp only [Act.put, List.setIfInBounds_toArray, List.set_cons_zero, List.set_cons_succ]
    rfl
  refine pure_ (i := 12) (N := some 45) (v := ?_) (a' := ?_) #[true, true, true, true, true, true, true, true, true, true, true, true, true, false, false, false, false, false, false, false] rfl rfl (by kernel_rfl) (fun _ _ _ h => h) (Or.inl ⟨by rfl, ?_⟩) ?_ ?_
  rotate_left
  · intro w'
    go_simp
    with_reducible rfl
  rotate_left
  · simp only [Act.put, List.setIfInBounds_toArray, List.set_cons_zero, List.set_cons_succ]
    rfl
  refine take_ (i := 13) (N := some 46) (v := ?_) (a' := ?_) #[true, true, true, true, true, true, true, true, true, true, true, true, true, true, false, false, false, false, false, false] rfl rfl (by kernel_rfl) (fun _ _ _ h => h) (Or.inl ⟨by rfl, ?_⟩) hHeld ?_ ?_
  rotate_left
  · rintro w' ⟨s0, s1, s2, s3, s4, s5, s6, s7⟩
    go_simp
    with_reducible rfl
  rotate_left
  · simp only [Act.put, List.setIfInBounds_toArray, List.set_cons_zero, List.set_cons_succ]
    rfl
  refine take_ (i := 14) (N := some 47) (v := ?_) (a' := ?_) #[true, true, true, true, true, true, true, true, true, true, true, true, true, true, true, false, false, false, false, false] rfl rfl (by kernel_rfl) (fun _ _ _ h => h) (Or.inl ⟨by rfl, ?_⟩) hHeld ?_ ?_
  rotate_left
  · rintro w' ⟨s0, s1, s2, s3, s4, s5, s6, s7⟩
    go_simp
    with_reducible rfl
  rotate_left
  · simp only [Act.put, List.setIfInBounds_toArray, List.set_cons_zero, List.set_cons_succ]
    rfl
  refine one_ (i := 15) (N := some 48) #[true, true, true, true, true, true, true, true, true, true, true, true, true, true, true, true, false, false, false, false] rfl rfl (by kernel_rfl) (by decide) (fun K hK => ?_)
  refine goes_ Try.func40 (by kernel_rfl) rfl #[.agg #[.string r.f0, .int .i64 r.f1.f0, .int .i64 r.f1.f1, .string r.f1.f2, .slice A4 r.f1.f3.length c4, .slice A5 r.f2.length c5]] (by rfl) rfl rfl (by simp only [List.map_toArray, List.map_cons, List.map_nil]; rfl) ?_
  refine (HX40.out W HBo.out).mono ?_
  rintro e w3 ⟨u4, u5, rfl, hu4, hu5, hb3⟩
  refine ⟨_, rfl, ?_⟩
  obtain ⟨B4, d4, rfl⟩ := Kd.R_slice hu4.out
  obtain ⟨B5, d5, rfl⟩ := Kd.R_slice hu5.out
  refine hK.out _ _ ⟨pw_cell_below hb3.out hHeld.1, pw_cell_below hb3.out hHeld.2.1, pw_cell_below hb3.out hHeld.2.2.1, pw_cell_below hb3.out hHeld.2.2.2.1, pw_cell_below hb3.out hHeld.2.2.2.2.1, pw_cell_below hb3.out hHeld.2.2.2.2.2.1, pw_cell_below hb3.out hHeld.2.2.2.2.2.2.1, pw_cell_below hb3.out hHeld.2.2.2.2.2.2.2⟩ (fun hHeld => ?_)
  clear hK K
  refine norm_ (a' := ?_) ?_ ?_
  rotate_left
  · show Act.put _ (some 48) _ = _
    simp only [Act.put, List.setIfInBounds_toArray, List.set_cons_zero, List.set_cons_succ]
    rfl
  refine one_ (i := 16) (N := some 49) #[true, true, true, true, true, true, true, true, true, true, true, true, true, true, true, true, true, false, false, false] rfl rfl (by kernel_rfl) (by decide) (fun K hK => ?_)
  refine value_ (w1 := ?_) (v := ?_) (by rfl) rfl ?_ ?_
  rotate_left 2
  · go_simp
    constructor
    · rfl
    · rfl
  refine hK.out _ _ ⟨pw_cell_below ((Below.refl _ _).alloc (Nat.le_refl _) _) hHeld.1, pw_cell_below ((Below.refl _ _).alloc (Nat.le_refl _) _) hHeld.2.1, pw_cell_below ((Below.refl _ _).alloc (Nat.le_refl _) _) hHeld.2.2.1, pw_cell_below ((Below.refl _ _).alloc (Nat.le_refl _) _) hHeld.2.2.2.1, pw_cell_below ((Below.refl _ _).alloc (Nat.le_refl _) _) hHeld.2.2.2.2.1, pw_cell_below ((Below.refl _ _).alloc (Nat.le_refl _) _) hHeld.2.2.2.2.2.1, pw_cell_below ((Below.refl _ _).alloc (Nat.le_refl _) _) hHeld.2.2.2.2.2.2.1, pw_cell_below ((Below.refl _ _).alloc (Nat.le_refl _) _) hHeld.2.2.2.2.2.2.2⟩ (fun hHeld => ?_)
  clear hK K
  refine norm_ (a' := ?_) ?_ ?_
  rotate_left
  · show Act.put _ (some 49) _ = _
    simp only [Act.put, List.setIfInBounds_toArray, List.set_cons_zero, List.set_cons_succ]
    rfl
  refine one_ (i := 17) (N := some 50) #[true, true, true, true, true, true, true, true, true, true, true, true, true, true, true, true, true, true, false, false] rfl rfl (by kernel_rfl) (by decide) (fun K hK => ?_)
  refine Kd.R_append_step k45 (w0 := w3) base (by rfl) (.tmp 46) (.tmp 49) 35 45 (.agg #[.string ⟨#[]⟩, .int .i64 0, .int .i64 0, .string ⟨#[]⟩, .slice none 0 0, .slice none 0 0]) 96 rfl Try.underlying35 info45 rfl (by decide) (by decide) vp (b.logs.getD p []) r _ (fun k => own k = 6 + p ∨ w.heap.size ≤ k) (fun k => W.heap.size ≤ k) rfl rfl ?hp ?hok ?hfr ?hO (Below.refl _ _) ?hS ?hl ?_
  case hp => exact k45_mkM _ _ _ r (R_newer hu4.out (Nat.le_trans Hbase.out HBo.out.size)) (R_newer hu5.out (Nat.le_trans Hbase.out HBo.out.size))
  case hok => exact fun k hk => ⟨.inr (Nat.le_trans HBo.out.size hk), fun he => by have := Kd.R_lt HRp.out k he.symm; have := HBo.out.size; omega⟩
  case hfr => exact fun k hk => .inr (Nat.le_trans HBo.out.size (Nat.le_trans hb3.out.size hk))
  case hO => exact Kd.R_below (Kd.R_below (Kd.R_mono HRp.out (fun _ hk => .inl hk)) HBo.out) hb3.out
  case hS => exact Nat.le_trans Hbase.out (Nat.le_trans HBo.out.size hb3.out.size)
  case hl => have := Hll.out p; omega
  intro v1 w4 hO4 hB4 hg4 hat4
  have HA := Lib.hid (H.out.appended Hbase.out p hp (HBo.out.trans (hb3.out.mono HBo.out.size)) Hvp.out hg4 hO4)
  have hbx : Hid (w4.heap[w.heap.size]? = some (.cells #[.string r.f0, .int .i64 r.f1.f0, .int .i64 r.f1.f1, .string r.f1.f2, .slice A4 r.f1.f3.length c4, .slice A5 r.f2.length c5] 45)) := took_box HRp.out HBo0.out hb3.out hg4
  obtain ⟨A1, m1, c1, rfl⟩ := R_sliced hO4
  clear hO4 hB4 hg4 hat4
  refine hK.out _ _ ⟨HA.out.c4, HA.out.cl.trans (congrArg some Hvp.out), blk_at hbx.out 0 rfl, blk_at hbx.out 1 rfl, blk_at hbx.out 2 rfl, blk_at hbx.out 3 rfl, blk_at hbx.out 4 rfl, blk_at hbx.out 5 rfl⟩ (fun hHeld => ?_)
  clear hK K
  refine norm_ (a' := ?_) ?_ ?_
  rotate_left
  · show Act.put _ (some 50) _ = _
    simp only [Act.put, List.setIfInBounds_toArray, List.set_cons_zero, List.set_cons_succ]
    rfl
  refine pure_ (i := 18) (N := some 51) (v := ?_) (a' := ?_) #[true, true, true, true, true, true, true, true, true, true, true, true, true, true, true, true, true, true, true, false] rfl rfl (by kernel_rfl) (fun _ _ _ h => h) (Or.inl ⟨by rfl, ?_⟩) ?_ ?_
  rotate_left
  · intro w'
    go_simp
    with_reducible rfl
  rotate_left
  · simp only [Act.put, List.setIfInBounds_toArray, List.set_cons_zero, List.set_cons_succ]
    rfl
  refine last_ (i := 19) (N := none) #[true, true, true, true, true, true, true, true, true, true, true, true, true, true, true, true, true, true, true, true] rfl rfl (by kernel_rfl) (by decide) (fun K hK => ?_)
  have hs := hHeld.2.1
  have hf := HA.out.fl
  refine skip_ (w1 := ?_) (by rfl) rfl ?_ ?_
  rotate_left
  · go_simp
    rfl
  refine hK.out _ _ ?_
  clear hK K hs hf
  refine done_ (by kernel_rfl) ?_
  have H4 : Hid (BkAt _ base _ g (b.logged p [r]) gp gl vc vd _) := HA.out.bk
  have U4 := Lib.hid HA.out.upd
  clear hHeld
  go_wp2
  go_ret
  exact ⟨rfl, _, ⟨_, _, _, _, _, H4.out⟩, U4.out⟩
theorem took18 (h : BkAt w base own g b gp gl vc vd lv) (hbase : base ≤ w.heap.size) (port : Int) (r : S45) (A4 : Option Addr) (c4 : Nat) (h4 : Away k42 own w A4 r.f1.f3) (hc4 : r.f1.f3.length ≤ c4) (A5 : Option Addr) (c5 : Nat) (h5 : Away (Kd.int .i64) own w A5 r.f2) (hc5 : r.f2.length ≤ c5) (hpr : partsR r ≤ 100000) (hll : ∀ i, (b.logs.getD i []).length + 1 ≤ 1000000000000) :
    Calls Try.prog 18 #[.pointer (some ⟨g, 0, none⟩), .int .i64 port, .agg #[.string r.f0, .int .i64 r.f1.f0, .int .i64 r.f1.f1, .string r.f1.f2, .slice A4 r.f1.f3.length c4, .slice A5 r.f2.length c5]] w fun e w' => e = .returned (.int .i64 (b.tookE port)) ∧ BkPost base own g (b.took port r) w w' := by
  by_cases hk : b.knows port = true
  · by_cases hh : b.held port = true
    · have hE : b.tookE port = 134 := by unfold Bk.tookE; rw [if_neg (by simp [hk]), if_pos hh]
      have hB : b.took port r = b := by unfold Bk.took; rw [hE]; rfl
      rw [hE, hB]
      exact took18_held h hbase port r A4 c4 h4 hc4 A5 c5 h5 hc5 hpr hll hk hh
    · have hh' : b.held port = false := by simpa using hh
      have hE : b.tookE port = 0 := by unfold Bk.tookE; rw [if_neg (by simp [hk]), if_neg hh]
      obtain ⟨p, rfl, hp⟩ := Bk.knows_nat hk
      rcases hc : b.copied with _ | _
      · have hB : b.took p r = b := by unfold Bk.took; rw [hc]; simp
        rw [hE, hB]
        exact took18_before h hbase p hp r A4 c4 h4 hc4 A5 c5 h5 hc5 hpr hll hk hh' hc
      · by_cases hq : b.ports.getD p 0 = 0
        · have hB : b.took p r = b.logged p [r] := by unfold Bk.took; rw [hE, hc, Int.toNat_natCast, hq]; rfl
          rw [hE, hB]
          exact took18_log h hbase p hp r A4 c4 h4 hc4 A5 c5 h5 hc5 hpr hll hk hh' hc hq
        · have hB : b.took p r = b := by unfold Bk.took; rw [hE, hc, Int.toNat_natCast, beq_false_of_ne hq]; rfl
          rw [hE, hB]
          exact took18_behind h hbase p hp r A4 c4 h4 hc4 A5 c5 h5 hc5 hpr hll hk hh' hc hq
  · have hk' : b.knows port = false := by simpa using hk
    have hE : b.tookE port = 132 := by unfold Bk.tookE; rw [if_pos hk']
    have hB : b.took port r = b := by unfold Bk.took; rw [hE]; rfl
    rw [hE, hB]
    exact took18_port h hbase port r A4 c4 h4 hc4 A5 c5 h5 hc5 hpr hll hk'
end
end Go.Proofs.Ytomfknblehkocaa.C
