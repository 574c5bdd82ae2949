/- The document's book: Mark. -/
import Derived.Test.YtomfknblehkocaaFB
namespace Go.Proofs.Ytomfknblehkocaa.C
open Go.RowKit Go.Proofs.YtomfknblehkocaaW.PrintWords Go.Proofs.YtomfknblehkocaaW.PrintLast
set_option linter.unusedVariables false
set_option linter.unusedSimpArgs false

def Rk.markE (r : Rk) (port id : Int) : Int := if port < 0 ∨ r.ports ≤ port then 132 else if id < 1 ∨ 9999 < id then 133 else if r.held port = true then 134 else 0
def Rk.skips (r : Rk) (port id : Int) : Bool := decide (id < r.last) || (id == r.last && decide (0 ≤ r.clo port))
def Rk.freshed (r : Rk) (id : Int) : Rk := ⟨r.mode, r.ports, r.back, id, [], false⟩
def Rk.begun (r : Rk) (id : Int) : Rk := if r.last < id then r.freshed id else r
def toldM (port id : Int) (x : List S45) (s : S34) (y : List S45) : S109 := ⟨port, id, ⟨⟨#[]⟩, ⟨0, 0, ⟨#[]⟩, []⟩, []⟩, x, s, y⟩
def Rk.mark (r : Rk) (port id : Int) (x : List S45) (s : S34) (y : List S45) : Rk := if r.markE port id = 0 ∧ r.skips port id = false then (r.begun id).add (toldM port id x s y) else r
def Rk.markC (r : Rk) (port id : Int) (x : List S45) (s : S34) (y : List S45) : Bool := r.markE port id == 0 && !r.skips port id && decide ((r.begun id).cop < 0) && decide (0 ≤ (r.mark port id x s y).cop)
section
variable {w : World} {base : Nat} {own : Nat → Nat} {g : Nat} {r : Rk} {A : Option Addr} {c : Nat}
theorem RkAt.freshd (h : RkAt w base own g r A c) (id : Int) : RkAt (((w.setCell ⟨g, 3, none⟩ (.int .i64 id)).setCell ⟨g, 4, none⟩ (.slice none 0 0)).setCell ⟨g, 5, none⟩ (.bool false)) base own g (r.freshed id) none 0 ∧ Upd own w own (((w.setCell ⟨g, 3, none⟩ (.int .i64 id)).setCell ⟨g, 4, none⟩ (.slice none 0 0)).setCell ⟨g, 5, none⟩ (.bool false)) := by
  have hg : own g ≠ 0 := by have := h.og; omega
  refine ⟨⟨?_, Kd.R_nil _ _ _ _ _, h.hp, h.og, fun k hk => by simp only [World.size_setCell]; exact h.lo k hk⟩, (((Upd.refl own w).set hg _).set hg _).set hg _⟩
  have h1 := blk_put h.hb 3 (.int .i64 id) rfl
  have h2 := blk_put h1 4 (.slice none 0 0) rfl
  exact blk_put h2 5 (.bool false) rfl
theorem add_len (r : Rk) (t : S109) : (r.add t).list.length = r.list.length + 1 := by unfold Rk.add; simp

set_option maxRecDepth 100000 in
set_option maxHeartbeats 4000000 in
theorem mark50_lo (h : RkAt w base own g r A c) (hbase : base ≤ w.heap.size) (port id : Int) (x : List S45) (Ax : Option Addr) (cx : Nat) (hx : Away k45 own w Ax x) (hcx : x.length ≤ cx) (hpx : partsRs x ≤ 100000) (s : S34) (As : Option Addr) (cs : Nat) (hs : Away k104 own w As s.f1) (hcs : s.f1.length ≤ cs) (hps : partsC s.f1 ≤ 100000) (y : List S45) (Ay : Option Addr) (cy : Nat) (hy : Away k45 own w Ay y) (hcy : y.length ≤ cy) (hpy : partsRs y ≤ 100000) (d0 : decide (port < 0) = true) : Calls Try.prog 50 #[.pointer (some ⟨g, 0, none⟩), .int .i64 port, .int .i64 id, .slice Ax x.length cx, .agg #[.int .i64 s.f0, .slice As s.f1.length cs], .slice Ay y.length cy] w fun e w' => e = .returned (.tuple #[.bool false, .int .i64 132]) ∧ RkPost base own g r w w' := by
  have U0 : Hid (Below w.heap.size w (w.alloc (.cells #[.int .i64 s.f0, .slice As s.f1.length cs] 34))) := (Below.refl _ _).alloc (Nat.le_refl _) _
  have H0 : Hid (RkAt (w.alloc (.cells #[.int .i64 s.f0, .slice As s.f1.length cs] 34)) base own g r A c) := h.below U0.out
  have HH := Lib.hid (held53 H0.out port)
  have HX := Lib.hid h
  have Hbase := Lib.hid hbase
  have a1 : w.cell? ⟨g, 1, none⟩ = some (.int .i64 r.ports) := blk_at h.hb 1 rfl
  have a3 : w.cell? ⟨g, 3, none⟩ = some (.int .i64 r.last) := blk_at h.hb 3 rfl
  have A3 := Lib.hid a3
  have hgl : g < w.heap.size := h.glt
  clear h hbase hx hcx hpx hs hcs hps hy hcy hpy
  go_enter Try.func50, Try.ntmps50
  go_wp2
  go_ret2
  exact ⟨rfl, own, ⟨_, _, HX.out.below U0.out⟩, Upd.of_below U0.out (fun _ _ => rfl)⟩

set_option maxRecDepth 100000 in
set_option maxHeartbeats 4000000 in
theorem mark50_hi (h : RkAt w base own g r A c) (hbase : base ≤ w.heap.size) (port id : Int) (x : List S45) (Ax : Option Addr) (cx : Nat) (hx : Away k45 own w Ax x) (hcx : x.length ≤ cx) (hpx : partsRs x ≤ 100000) (s : S34) (As : Option Addr) (cs : Nat) (hs : Away k104 own w As s.f1) (hcs : s.f1.length ≤ cs) (hps : partsC s.f1 ≤ 100000) (y : List S45) (Ay : Option Addr) (cy : Nat) (hy : Away k45 own w Ay y) (hcy : y.length ≤ cy) (hpy : partsRs y ≤ 100000) (d0 : decide (port < 0) = false) (d1 : decide (r.ports ≤ port) = true) : Calls Try.prog 50 #[.pointer (some ⟨g, 0, none⟩), .int .i64 port, .int .i64 id, .slice Ax x.length cx, .agg #[.int .i64 s.f0, .slice As s.f1.length cs], .slice Ay y.length cy] w fun e w' => e = .returned (.tuple #[.bool false, .int .i64 132]) ∧ RkPost base own g r w w' := by
  have U0 : Hid (Below w.heap.size w (w.alloc (.cells #[.int .i64 s.f0, .slice As s.f1.length cs] 34))) := (Below.refl _ _).alloc (Nat.le_refl _) _
  have H0 : Hid (RkAt (w.alloc (.cells #[.int .i64 s.f0, .slice As s.f1.length cs] 34)) base own g r A c) := h.below U0.out
  have HH := Lib.hid (held53 H0.out port)
  have HX := Lib.hid h
  have Hbase := Lib.hid hbase
  have a1 : w.cell? ⟨g, 1, none⟩ = some (.int .i64 r.ports) := blk_at h.hb 1 rfl
  have a3 : w.cell? ⟨g, 3, none⟩ = some (.int .i64 r.last) := blk_at h.hb 3 rfl
  have A3 := Lib.hid a3
  have hgl : g < w.heap.size := h.glt
  clear h hbase hx hcx hpx hs hcs hps hy hcy hpy
  go_enter Try.func50, Try.ntmps50
  go_wp2
  go_ret2
  exact ⟨rfl, own, ⟨_, _, HX.out.below U0.out⟩, Upd.of_below U0.out (fun _ _ => rfl)⟩

set_option maxRecDepth 100000 in
set_option maxHeartbeats 4000000 in
theorem mark50_small (h : RkAt w base own g r A c) (hbase : base ≤ w.heap.size) (port id : Int) (x : List S45) (Ax : Option Addr) (cx : Nat) (hx : Away k45 own w Ax x) (hcx : x.length ≤ cx) (hpx : partsRs x ≤ 100000) (s : S34) (As : Option Addr) (cs : Nat) (hs : Away k104 own w As s.f1) (hcs : s.f1.length ≤ cs) (hps : partsC s.f1 ≤ 100000) (y : List S45) (Ay : Option Addr) (cy : Nat) (hy : Away k45 own w Ay y) (hcy : y.length ≤ cy) (hpy : partsRs y ≤ 100000) (d0 : decide (port < 0) = false) (d1 : decide (r.ports ≤ port) = false) (d2 : decide (id < 1) = true) : Calls Try.prog 50 #[.pointer (some ⟨g, 0, none⟩), .int .i64 port, .int .i64 id, .slice Ax x.length cx, .agg #[.int .i64 s.f0, .slice As s.f1.length cs], .slice Ay y.length cy] w fun e w' => e = .returned (.tuple #[.bool false, .int .i64 133]) ∧ RkPost base own g r w w' := by
  have U0 : Hid (Below w.heap.size w (w.alloc (.cells #[.int .i64 s.f0, .slice As s.f1.length cs] 34))) := (Below.refl _ _).alloc (Nat.le_refl _) _
  have H0 : Hid (RkAt (w.alloc (.cells #[.int .i64 s.f0, .slice As s.f1.length cs] 34)) base own g r A c) := h.below U0.out
  have HH := Lib.hid (held53 H0.out port)
  have HX := Lib.hid h
  have Hbase := Lib.hid hbase
  have a1 : w.cell? ⟨g, 1, none⟩ = some (.int .i64 r.ports) := blk_at h.hb 1 rfl
  have a3 : w.cell? ⟨g, 3, none⟩ = some (.int .i64 r.last) := blk_at h.hb 3 rfl
  have A3 := Lib.hid a3
  have hgl : g < w.heap.size := h.glt
  clear h hbase hx hcx hpx hs hcs hps hy hcy hpy
  go_enter Try.func50, Try.ntmps50
  go_wp2
  go_ret2
  exact ⟨rfl, own, ⟨_, _, HX.out.below U0.out⟩, Upd.of_below U0.out (fun _ _ => rfl)⟩

set_option maxRecDepth 100000 in
set_option maxHeartbeats 4000000 in
theorem mark50_great (h : RkAt w base own g r A c) (hbase : base ≤ w.heap.size) (port id : Int) (x : List S45) (Ax : Option Addr) (cx : Nat) (hx : Away k45 own w Ax x) (hcx : x.length ≤ cx) (hpx : partsRs x ≤ 100000) (s : S34) (As : Option Addr) (cs : Nat) (hs : Away k104 own w As s.f1) (hcs : s.f1.length ≤ cs) (hps : partsC s.f1 ≤ 100000) (y : List S45) (Ay : Option Addr) (cy : Nat) (hy : Away k45 own w Ay y) (hcy : y.length ≤ cy) (hpy : partsRs y ≤ 100000) (d0 : decide (port < 0) = false) (d1 : decide (r.ports ≤ port) = false) (d2 : decide (id < 1) = false) (d3 : decide (9999 < id) = true) : Calls Try.prog 50 #[.pointer (some ⟨g, 0, none⟩), .int .i64 port, .int .i64 id, .slice Ax x.length cx, .agg #[.int .i64 s.f0, .slice As s.f1.length cs], .slice Ay y.length cy] w fun e w' => e = .returned (.tuple #[.bool false, .int .i64 133]) ∧ RkPost base own g r w w' := by
  have U0 : Hid (Below w.heap.size w (w.alloc (.cells #[.int .i64 s.f0, .slice As s.f1.length cs] 34))) := (Below.refl _ _).alloc (Nat.le_refl _) _
  have H0 : Hid (RkAt (w.alloc (.cells #[.int .i64 s.f0, .slice As s.f1.length cs] 34)) base own g r A c) := h.below U0.out
  have HH := Lib.hid (held53 H0.out port)
  have HX := Lib.hid h
  have Hbase := Lib.hid hbase
  have a1 : w.cell? ⟨g, 1, none⟩ = some (.int .i64 r.ports) := blk_at h.hb 1 rfl
  have a3 : w.cell? ⟨g, 3, none⟩ = some (.int .i64 r.last) := blk_at h.hb 3 rfl
  have A3 := Lib.hid a3
  have hgl : g < w.heap.size := h.glt
  clear h hbase hx hcx hpx hs hcs hps hy hcy hpy
  go_enter Try.func50, Try.ntmps50
  go_wp2
  go_ret2
  exact ⟨rfl, own, ⟨_, _, HX.out.below U0.out⟩, Upd.of_below U0.out (fun _ _ => rfl)⟩

set_option maxRecDepth 100000 in
set_option maxHeartbeats 4000000 in
theorem mark50_held (h : RkAt w base own g r A c) (hbase : base ≤ w.heap.size) (port id : Int) (x : List S45) (Ax : Option Addr) (cx : Nat) (hx : Away k45 own w Ax x) (hcx : x.length ≤ cx) (hpx : partsRs x ≤ 100000) (s : S34) (As : Option Addr) (cs : Nat) (hs : Away k104 own w As s.f1) (hcs : s.f1.length ≤ cs) (hps : partsC s.f1 ≤ 100000) (y : List S45) (Ay : Option Addr) (cy : Nat) (hy : Away k45 own w Ay y) (hcy : y.length ≤ cy) (hpy : partsRs y ≤ 100000) (d0 : decide (port < 0) = false) (d1 : decide (r.ports ≤ port) = false) (d2 : decide (id < 1) = false) (d3 : decide (9999 < id) = false) (hh : r.held port = true) : Calls Try.prog 50 #[.pointer (some ⟨g, 0, none⟩), .int .i64 port, .int .i64 id, .slice Ax x.length cx, .agg #[.int .i64 s.f0, .slice As s.f1.length cs], .slice Ay y.length cy] w fun e w' => e = .returned (.tuple #[.bool false, .int .i64 134]) ∧ RkPost base own g r w w' := by
  have U0 : Hid (Below w.heap.size w (w.alloc (.cells #[.int .i64 s.f0, .slice As s.f1.length cs] 34))) := (Below.refl _ _).alloc (Nat.le_refl _) _
  have H0 : Hid (RkAt (w.alloc (.cells #[.int .i64 s.f0, .slice As s.f1.length cs] 34)) base own g r A c) := h.below U0.out
  have HH := Lib.hid (held53 H0.out port)
  have HX := Lib.hid h
  have Hbase := Lib.hid hbase
  have a1 : w.cell? ⟨g, 1, none⟩ = some (.int .i64 r.ports) := blk_at h.hb 1 rfl
  have a3 : w.cell? ⟨g, 3, none⟩ = some (.int .i64 r.last) := blk_at h.hb 3 rfl
  have A3 := Lib.hid a3
  have hgl : g < w.heap.size := h.glt
  rw [hh] at HH
  clear hh
  clear h hbase hx hcx hpx hs hcs hps hy hcy hpy
  go_enter Try.func50, Try.ntmps50
  go_wp2_with (first
    | (go_at_call 53; refine HH.out.mono ?_; rintro e w1 ⟨rfl, hb1⟩
       have HB1 : Hid (Below w.heap.size w w1) := U0.out.trans (hb1.out.mono U0.out.size)
       clear hb1))
  go_ret2
  exact ⟨rfl, own, ⟨_, _, HX.out.below HB1.out⟩, Upd.of_below HB1.out (fun _ _ => rfl)⟩

set_option maxRecDepth 100000 in
set_option maxHeartbeats 4000000 in
theorem mark50_older (h : RkAt w base own g r A c) (hbase : base ≤ w.heap.size) (port id : Int) (x : List S45) (Ax : Option Addr) (cx : Nat) (hx : Away k45 own w Ax x) (hcx : x.length ≤ cx) (hpx : partsRs x ≤ 100000) (s : S34) (As : Option Addr) (cs : Nat) (hs : Away k104 own w As s.f1) (hcs : s.f1.length ≤ cs) (hps : partsC s.f1 ≤ 100000) (y : List S45) (Ay : Option Addr) (cy : Nat) (hy : Away k45 own w Ay y) (hcy : y.length ≤ cy) (hpy : partsRs y ≤ 100000) (d0 : decide (port < 0) = false) (d1 : decide (r.ports ≤ port) = false) (d2 : decide (id < 1) = false) (d3 : decide (9999 < id) = false) (hh : r.held port = false) (d4 : decide (id < r.last) = true) : Calls Try.prog 50 #[.pointer (some ⟨g, 0, none⟩), .int .i64 port, .int .i64 id, .slice Ax x.length cx, .agg #[.int .i64 s.f0, .slice As s.f1.length cs], .slice Ay y.length cy] w fun e w' => e = .returned (.tuple #[.bool false, .int .i64 0]) ∧ RkPost base own g r w w' := by
  have U0 : Hid (Below w.heap.size w (w.alloc (.cells #[.int .i64 s.f0, .slice As s.f1.length cs] 34))) := (Below.refl _ _).alloc (Nat.le_refl _) _
  have H0 : Hid (RkAt (w.alloc (.cells #[.int .i64 s.f0, .slice As s.f1.length cs] 34)) base own g r A c) := h.below U0.out
  have HH := Lib.hid (held53 H0.out port)
  have HX := Lib.hid h
  have Hbase := Lib.hid hbase
  have a1 : w.cell? ⟨g, 1, none⟩ = some (.int .i64 r.ports) := blk_at h.hb 1 rfl
  have a3 : w.cell? ⟨g, 3, none⟩ = some (.int .i64 r.last) := blk_at h.hb 3 rfl
  have A3 := Lib.hid a3
  have hgl : g < w.heap.size := h.glt
  rw [hh] at HH
  clear hh
  clear h hbase hx hcx hpx hs hcs hps hy hcy hpy
  go_enter Try.func50, Try.ntmps50
  go_wp2_with (first
    | (go_at_call 53; refine HH.out.mono ?_; rintro e w1 ⟨rfl, hb1⟩
       have HB1 : Hid (Below w.heap.size w w1) := U0.out.trans (hb1.out.mono U0.out.size)
       have b3 : w1.cell? ⟨g, 3, none⟩ = some (.int .i64 r.last) := (HB1.out.cell (World.block_lt_of_cell? w _ A3.out)).trans A3.out
       clear hb1))
  go_ret2
  exact ⟨rfl, own, ⟨_, _, HX.out.below HB1.out⟩, Upd.of_below HB1.out (fun _ _ => rfl)⟩

set_option maxRecDepth 100000 in
set_option maxHeartbeats 4000000 in
theorem mark50_again (h : RkAt w base own g r A c) (hbase : base ≤ w.heap.size) (port id : Int) (x : List S45) (Ax : Option Addr) (cx : Nat) (hx : Away k45 own w Ax x) (hcx : x.length ≤ cx) (hpx : partsRs x ≤ 100000) (s : S34) (As : Option Addr) (cs : Nat) (hs : Away k104 own w As s.f1) (hcs : s.f1.length ≤ cs) (hps : partsC s.f1 ≤ 100000) (y : List S45) (Ay : Option Addr) (cy : Nat) (hy : Away k45 own w Ay y) (hcy : y.length ≤ cy) (hpy : partsRs y ≤ 100000) (d0 : decide (port < 0) = false) (d1 : decide (r.ports ≤ port) = false) (d2 : decide (id < 1) = false) (d3 : decide (9999 < id) = false) (hh : r.held port = false) (d4 : decide (id < r.last) = false) (d5 : (id == r.last) = true) (d6 : decide (0 ≤ r.clo port) = true) : Calls Try.prog 50 #[.pointer (some ⟨g, 0, none⟩), .int .i64 port, .int .i64 id, .slice Ax x.length cx, .agg #[.int .i64 s.f0, .slice As s.f1.length cs], .slice Ay y.length cy] w fun e w' => e = .returned (.tuple #[.bool false, .int .i64 0]) ∧ RkPost base own g r w w' := by
  have U0 : Hid (Below w.heap.size w (w.alloc (.cells #[.int .i64 s.f0, .slice As s.f1.length cs] 34))) := (Below.refl _ _).alloc (Nat.le_refl _) _
  have H0 : Hid (RkAt (w.alloc (.cells #[.int .i64 s.f0, .slice As s.f1.length cs] 34)) base own g r A c) := h.below U0.out
  have HH := Lib.hid (held53 H0.out port)
  have HX := Lib.hid h
  have Hbase := Lib.hid hbase
  have a1 : w.cell? ⟨g, 1, none⟩ = some (.int .i64 r.ports) := blk_at h.hb 1 rfl
  have a3 : w.cell? ⟨g, 3, none⟩ = some (.int .i64 r.last) := blk_at h.hb 3 rfl
  have A3 := Lib.hid a3
  have hgl : g < w.heap.size := h.glt
  rw [hh] at HH
  clear hh
  clear h hbase hx hcx hpx hs hcs hps hy hcy hpy
  go_enter Try.func50, Try.ntmps50
  go_wp2_with (first
    | (go_at_call 53; refine HH.out.mono ?_; rintro e w1 ⟨rfl, hb1⟩
       have HB1 : Hid (Below w.heap.size w w1) := U0.out.trans (hb1.out.mono U0.out.size)
       have b3 : w1.cell? ⟨g, 3, none⟩ = some (.int .i64 r.last) := (HB1.out.cell (World.block_lt_of_cell? w _ A3.out)).trans A3.out
       clear hb1)
    | (go_at_call 62; refine (closed62 (HX.out.below HB1.out) port).mono ?_; rintro e w2 ⟨rfl, hb2⟩
       have HB2 : Hid (Below w.heap.size w w2) := HB1.out.trans (hb2.out.mono HB1.out.size)
       clear hb2))
  go_ret2
  exact ⟨rfl, own, ⟨_, _, HX.out.below HB2.out⟩, Upd.of_below HB2.out (fun _ _ => rfl)⟩

set_option maxRecDepth 100000 in
set_option maxHeartbeats 4000000 in
theorem mark50_same (h : RkAt w base own g r A c) (hbase : base ≤ w.heap.size) (port id : Int) (x : List S45) (Ax : Option Addr) (cx : Nat) (hx : Away k45 own w Ax x) (hcx : x.length ≤ cx) (hpx : partsRs x ≤ 100000) (s : S34) (As : Option Addr) (cs : Nat) (hs : Away k104 own w As s.f1) (hcs : s.f1.length ≤ cs) (hps : partsC s.f1 ≤ 100000) (y : List S45) (Ay : Option Addr) (cy : Nat) (hy : Away k45 own w Ay y) (hcy : y.length ≤ cy) (hpy : partsRs y ≤ 100000) (d0 : decide (port < 0) = false) (d1 : decide (r.ports ≤ port) = false) (d2 : decide (id < 1) = false) (d3 : decide (9999 < id) = false) (hh : r.held port = false) (d4 : decide (id < r.last) = false) (d5 : (id == r.last) = true) (d6 : decide (0 ≤ r.clo port) = false) (d7 : decide (r.last < id) = false) (hll : r.list.length ≤ 100000000) : Calls Try.prog 50 #[.pointer (some ⟨g, 0, none⟩), .int .i64 port, .int .i64 id, .slice Ax x.length cx, .agg #[.int .i64 s.f0, .slice As s.f1.length cs], .slice Ay y.length cy] w fun e w' => e = .returned (.tuple #[.bool (decide (r.cop < 0) && decide (0 ≤ (r.add (toldM port id x s y)).cop)), .int .i64 0]) ∧ RkPost base own g (r.add (toldM port id x s y)) w w' := by
  have U0 : Hid (Below w.heap.size w (w.alloc (.cells #[.int .i64 s.f0, .slice As s.f1.length cs] 34))) := (Below.refl _ _).alloc (Nat.le_refl _) _
  have H0 : Hid (RkAt (w.alloc (.cells #[.int .i64 s.f0, .slice As s.f1.length cs] 34)) base own g r A c) := h.below U0.out
  have HH := Lib.hid (held53 H0.out port)
  have HX := Lib.hid h
  have Hbase := Lib.hid hbase
  have a1 : w.cell? ⟨g, 1, none⟩ = some (.int .i64 r.ports) := blk_at h.hb 1 rfl
  have a3 : w.cell? ⟨g, 3, none⟩ = some (.int .i64 r.last) := blk_at h.hb 3 rfl
  have A3 := Lib.hid a3
  have hgl : g < w.heap.size := h.glt
  rw [hh] at HH
  have HCx : Hid (∀ W, Upd own w own W → Calls Try.prog 64 #[.slice Ax x.length cx] W fun e w' => ∃ v, e = .returned v ∧ Hid (Kd.R k45 45 w' W.heap.size (fun _ => True) v x) ∧ Hid (Below W.heap.size W w')) := fun W hW => copyRecords64 x Ax cx W (hx own W hW) hcx hpx
  have HCy : Hid (∀ W, Upd own w own W → Calls Try.prog 64 #[.slice Ay y.length cy] W fun e w' => ∃ v, e = .returned v ∧ Hid (Kd.R k45 45 w' W.heap.size (fun _ => True) v y) ∧ Hid (Below W.heap.size W w')) := fun W hW => copyRecords64 y Ay cy W (hy own W hW) hcy hpy
  have HCs : Hid (∀ W, Upd own w own W → Calls Try.prog 65 #[.agg #[.int .i64 s.f0, .slice As s.f1.length cs]] W fun e w' => ∃ v, e = .returned (.agg #[.int .i64 s.f0, v]) ∧ Hid (Kd.R k104 104 w' W.heap.size (fun _ => True) v s.f1) ∧ Hid (Below W.heap.size W w')) := fun W hW => copyState65 s As cs W (hs own W hW) hcs hps
  obtain ⟨n, hn⟩ : ∃ n, n = r.list.length := ⟨_, rfl⟩
  have Hn := Lib.hid hn
  have HLL : Hid (n ≤ 100000000) := by rw [hn]; exact Lib.hid hll
  clear hn hll hh
  clear h hbase hx hcx hpx hs hcs hps hy hcy hpy
  go_enter Try.func50, Try.ntmps50
  generalize hq0 : r.cop = q at *
  have HQ0 := Lib.hid hq0
  clear hq0
  go_wp2_with (first
    | (go_at_call 53; refine HH.out.mono ?_; rintro e w1 ⟨rfl, hb1⟩
       have HB1 : Hid (Below w.heap.size w w1) := U0.out.trans (hb1.out.mono U0.out.size)
       have b3 : w1.cell? ⟨g, 3, none⟩ = some (.int .i64 r.last) := (HB1.out.cell (World.block_lt_of_cell? w _ A3.out)).trans A3.out
       have HBN1 : Hid (w1.heap[w.heap.size]? = some (.cells #[.int .i64 s.f0, .slice As s.f1.length cs] 34 (0, 0))) := (hb1.out.block _ (by simp)).trans (blk_new w _)
       clear hb1)
    | (go_at_call 62; refine (closed62 (HX.out.below HB1.out) port).mono ?_; rintro e w2 ⟨rfl, hb2⟩
       have HB2 : Hid (Below w.heap.size w w2) := HB1.out.trans (hb2.out.mono HB1.out.size)
       have HN : Hid (RkAt w2 base own g r A c) := HX.out.below HB2.out
       have HU : Hid (Upd own w own w2) := Upd.of_below HB2.out (fun _ _ => rfl)
       have HBN : Hid (w2.heap[w.heap.size]? = some (.cells #[.int .i64 s.f0, .slice As s.f1.length cs] 34 (0, 0))) := (hb2.out.block _ (blk_lt HBN1.out)).trans HBN1.out
       have b3 : w2.cell? ⟨g, 3, none⟩ = some (.int .i64 r.last) := (HB2.out.cell (World.block_lt_of_cell? w _ A3.out)).trans A3.out
       clear hb2)
    | (go_at_call 63; refine (copied63 HN.out).mono ?_; rintro e we ⟨he, hbe⟩
       rw [HQ0.out] at he
       subst he
       have HXE0 : Hid (RkAt we base own g r A c) := HN.out.below hbe.out
       have HUE0 : Hid (Upd own w own we) := HU.out.trans (Upd.of_below hbe.out (fun _ _ => rfl))
       have HBX : Hid (we.heap[w.heap.size]? = some (.cells #[.int .i64 s.f0, .slice As s.f1.length cs] 34 (0, 0))) := (hbe.out.block _ (blk_lt HBN.out)).trans HBN.out
       have HE4 : Hid (we.cell? ⟨g, 4, none⟩ = some (.slice A n c)) := by rw [Hn.out]; exact Lib.hid (blk_at HXE0.out.hb 4 rfl)
       clear hbe))
  refine start_ (n := 19) (S := (fun w' => w'.cell? ⟨g, 4, none⟩ = some (.slice A n c) ∧ w'.cell? ⟨w.heap.size, 0, none⟩ = some (.int .i64 s.f0) ∧ w'.cell? ⟨w.heap.size, 1, none⟩ = some (.slice As s.f1.length cs))) (ds := [15, 18]) #[false, false, false, false, false, false, false, false, false, false, false, false, false, false, false, false, false, false, false] (by kernel_rfl) rfl rfl ⟨(show we.drew.cell? _ = _ from HE4.out), blk_at (show we.drew.heap[w.heap.size]? = _ from HBX.out) 0 rfl, blk_at (show we.drew.heap[w.heap.size]? = _ from HBX.out) 1 rfl⟩ (fun hHeld => ?_)
  have HXE : Hid (RkAt we.drew base own g r A c) := HXE0.out.below (Below.refl _ _).drew
  have HUWE : Hid (Upd own w own we.drew) := HUE0.out.trans (Upd.of_below (Below.refl _ _).drew (fun _ _ => rfl))
  clear HXE0 HUE0 HE4 HBX
  generalize we.drew = WE at hHeld HXE HUWE ⊢
  have HBWE : Hid (Below WE.heap.size WE WE) := Below.refl _ _
  have HbE : Hid (base ≤ WE.heap.size) := Nat.le_trans Hbase.out HUWE.out.size
  have HR : Hid (Kd.R k109 109 WE base (fun k => own k = 2) (.slice A n c) r.list) := by rw [Hn.out]; exact HXE.out.hl
  refine pure_ (i := 0) (N := some 74) (v := ?_) (a' := ?_) #[true, false, false, false, false, false, false, false, false, false, false, false, false, false, false, false, false, false, false] rfl rfl (by kernel_rfl) (fun _ _ _ h => h) (Or.inl ⟨by rfl, ?_⟩) ?_ ?_
  rotate_left
  · intro w'
    go_simp
    with_reducible rfl
  rotate_left
  · simp only [Act.put, List.setIfInBounds_toArray, List.set_cons_zero, List.set_cons_succ]
    rfl
  refine pure_ (i := 1) (N := some 75) (v := ?_) (a' := ?_) #[true, true, false, false, false, false, false, false, false, false, false, false, false, false, false, false, false, false, false] rfl rfl (by kernel_rfl) (fun _ _ _ h => h) (Or.inl ⟨by rfl, ?_⟩) ?_ ?_
  rotate_left
  · intro w'
    go_simp
    with_reducible rfl
  rotate_left
  · simp only [Act.put, List.setIfInBounds_toArray, List.set_cons_zero, List.set_cons_succ]
    rfl
  refine pure_ (i := 2) (N := some 76) (v := ?_) (a' := ?_) #[true, true, true, false, false, false, false, false, false, false, false, false, false, false, false, false, false, false, false] rfl rfl (by kernel_rfl) (fun _ _ _ h => h) (Or.inl ⟨by rfl, ?_⟩) ?_ ?_
  rotate_left
  · intro w'
    go_simp
    with_reducible rfl
  rotate_left
  · simp only [Act.put, List.setIfInBounds_toArray, List.set_cons_zero, List.set_cons_succ]
    rfl
  refine pure_ (i := 3) (N := some 77) (v := ?_) (a' := ?_) #[true, true, true, true, false, false, false, false, false, false, false, false, false, false, false, false, false, false, false] rfl rfl (by kernel_rfl) (fun _ _ _ h => h) (Or.inl ⟨by rfl, ?_⟩) ?_ ?_
  rotate_left
  · intro w'
    go_simp
    with_reducible rfl
  rotate_left
  · simp only [Act.put, List.setIfInBounds_toArray, List.set_cons_zero, List.set_cons_succ]
    rfl
  refine take_ (i := 4) (N := some 78) (v := ?_) (a' := ?_) #[true, true, true, true, true, false, false, false, false, false, false, false, false, false, false, false, false, false, false] rfl rfl (by kernel_rfl) (fun _ _ _ h => h) (Or.inl ⟨by rfl, ?_⟩) hHeld ?_ ?_
  rotate_left
  · rintro w' ⟨s0, s1, s2⟩
    go_simp
    with_reducible rfl
  rotate_left
  · simp only [Act.put, List.setIfInBounds_toArray, List.set_cons_zero, List.set_cons_succ]
    rfl
  refine pure_ (i := 5) (N := some 79) (v := ?_) (a' := ?_) #[true, true, true, true, true, true, false, false, false, false, false, false, false, false, false, false, false, false, false] rfl rfl (by kernel_rfl) (fun _ _ _ h => h) (Or.inl ⟨by rfl, ?_⟩) ?_ ?_
  rotate_left
  · intro w'
    go_simp
    with_reducible rfl
  rotate_left
  · simp only [Act.put, List.setIfInBounds_toArray, List.set_cons_zero, List.set_cons_succ]
    rfl
  refine pure_ (i := 6) (N := some 80) (v := ?_) (a' := ?_) #[true, true, true, true, true, true, true, false, false, false, false, false, false, false, false, false, false, false, false] rfl rfl (by kernel_rfl) (fun _ _ _ h => h) (Or.inl ⟨by rfl, ?_⟩) ?_ ?_
  rotate_left
  · intro w'
    go_simp
    with_reducible rfl
  rotate_left
  · simp only [Act.put, List.setIfInBounds_toArray, List.set_cons_zero, List.set_cons_succ]
    rfl
  refine pure_ (i := 7) (N := some 81) (v := ?_) (a' := ?_) #[true, true, true, true, true, true, true, true, false, false, false, false, false, false, false, false, false, false, false] rfl rfl (by kernel_rfl) (fun _ _ _ h => h) (Or.inl ⟨by rfl, ?_⟩) ?_ ?_
  rotate_left
  · intro w'
    go_simp
    with_reducible rfl
  rotate_left
  · simp only [Act.put, List.setIfInBounds_toArray, List.set_cons_zero, List.set_cons_succ]
    rfl
  refine take_ (i := 9) (N := some 83) (v := ?_) (a' := ?_) #[true, true, true, true, true, true, true, true, false, true, false, false, false, false, false, false, false, false, false] rfl rfl (by kernel_rfl) (fun _ _ _ h => h) (Or.inl ⟨by rfl, ?_⟩) hHeld ?_ ?_
  rotate_left
  · rintro w' ⟨s0, s1, s2⟩
    go_simp
    with_reducible rfl
  rotate_left
  · simp only [Act.put, List.setIfInBounds_toArray, List.set_cons_zero, List.set_cons_succ]
    rfl
  refine pure_ (i := 11) (N := some 85) (v := ?_) (a' := ?_) #[true, true, true, true, true, true, true, true, false, true, false, true, false, false, false, false, false, false, false] rfl rfl (by kernel_rfl) (fun _ _ _ h => h) (Or.inl ⟨by rfl, ?_⟩) ?_ ?_
  rotate_left
  · intro w'
    go_simp
    with_reducible rfl
  rotate_left
  · simp only [Act.put, List.setIfInBounds_toArray, List.set_cons_zero, List.set_cons_succ]
    rfl
  refine one_ (i := 8) (N := some 82) #[true, true, true, true, true, true, true, true, true, true, false, true, false, false, false, false, false, false, false] rfl rfl (by kernel_rfl) (by decide) (fun K hK => ?_)
  refine goes_ Try.func64 (by kernel_rfl) rfl #[.slice Ax x.length cx] (by rfl) rfl rfl (by simp only [List.map_toArray, List.map_cons, List.map_nil]; rfl) ?_
  refine (HCx.out WE HUWE.out).mono ?_
  rintro e w3 ⟨u1, rfl, hu1, hbw3⟩
  have HBw3 : Hid (Below WE.heap.size WE w3) := HBWE.out.trans (hbw3.out.mono HBWE.out.size)
  have HUw3 : Hid (Upd own w own w3) := HUWE.out.trans (Upd.of_below hbw3.out (fun _ _ => rfl))
  refine ⟨_, rfl, ?_⟩
  obtain ⟨Bu1, du1, rfl⟩ := Kd.R_slice hu1.out
  refine hK.out _ _ ⟨pw_cell_below hbw3.out hHeld.1, pw_cell_below hbw3.out hHeld.2.1, pw_cell_below hbw3.out hHeld.2.2⟩ (fun hHeld => ?_)
  clear hK K
  refine norm_ (a' := ?_) ?_ ?_
  rotate_left
  · show Act.put _ (some 82) _ = _
    simp only [Act.put, List.setIfInBounds_toArray, List.set_cons_zero, List.set_cons_succ]
    rfl
  refine one_ (i := 10) (N := some 84) #[true, true, true, true, true, true, true, true, true, true, true, true, false, false, false, false, false, false, false] rfl rfl (by kernel_rfl) (by decide) (fun K hK => ?_)
  refine goes_ Try.func65 (by kernel_rfl) rfl #[.agg #[.int .i64 s.f0, .slice As s.f1.length cs]] (by rfl) rfl rfl (by simp only [List.map_toArray, List.map_cons, List.map_nil]; rfl) ?_
  refine (HCs.out w3 HUw3.out).mono ?_
  rintro e w4 ⟨u2, rfl, hu2, hbw4⟩
  have HBw4 : Hid (Below WE.heap.size WE w4) := HBw3.out.trans (hbw4.out.mono HBw3.out.size)
  have HUw4 : Hid (Upd own w own w4) := HUw3.out.trans (Upd.of_below hbw4.out (fun _ _ => rfl))
  refine ⟨_, rfl, ?_⟩
  obtain ⟨Bu2, du2, rfl⟩ := Kd.R_slice hu2.out
  refine hK.out _ _ ⟨pw_cell_below hbw4.out hHeld.1, pw_cell_below hbw4.out hHeld.2.1, pw_cell_below hbw4.out hHeld.2.2⟩ (fun hHeld => ?_)
  clear hK K
  refine norm_ (a' := ?_) ?_ ?_
  rotate_left
  · show Act.put _ (some 84) _ = _
    simp only [Act.put, List.setIfInBounds_toArray, List.set_cons_zero, List.set_cons_succ]
    rfl
  refine one_ (i := 12) (N := some 86) #[true, true, true, true, true, true, true, true, true, true, true, true, true, false, false, false, false, false, false] rfl rfl (by kernel_rfl) (by decide) (fun K hK => ?_)
  refine goes_ Try.func64 (by kernel_rfl) rfl #[.slice Ay y.length cy] (by rfl) rfl rfl (by simp only [List.map_toArray, List.map_cons, List.map_nil]; rfl) ?_
  refine (HCy.out w4 HUw4.out).mono ?_
  rintro e w5 ⟨u3, rfl, hu3, hbw5⟩
  have HBw5 : Hid (Below WE.heap.size WE w5) := HBw4.out.trans (hbw5.out.mono HBw4.out.size)
  have HUw5 : Hid (Upd own w own w5) := HUw4.out.trans (Upd.of_below hbw5.out (fun _ _ => rfl))
  refine ⟨_, rfl, ?_⟩
  obtain ⟨Bu3, du3, rfl⟩ := Kd.R_slice hu3.out
  refine hK.out _ _ ⟨pw_cell_below hbw5.out hHeld.1, pw_cell_below hbw5.out hHeld.2.1, pw_cell_below hbw5.out hHeld.2.2⟩ (fun hHeld => ?_)
  clear hK K
  refine norm_ (a' := ?_) ?_ ?_
  rotate_left
  · show Act.put _ (some 86) _ = _
    simp only [Act.put, List.setIfInBounds_toArray, List.set_cons_zero, List.set_cons_succ]
    rfl
  refine pure_ (i := 13) (N := some 87) (v := ?_) (a' := ?_) #[true, true, true, true, true, true, true, true, true, true, true, true, true, true, false, false, false, false, false] rfl rfl (by kernel_rfl) (fun _ _ _ h => h) (Or.inl ⟨by rfl, ?_⟩) ?_ ?_
  rotate_left
  · intro w'
    go_simp
    with_reducible rfl
  rotate_left
  · simp only [Act.put, List.setIfInBounds_toArray, List.set_cons_zero, List.set_cons_succ]
    rfl
  refine one_ (i := 14) (N := some 88) #[true, true, true, true, true, true, true, true, true, true, true, true, true, true, true, false, false, false, false] rfl rfl (by kernel_rfl) (by decide) (fun K hK => ?_)
  refine value_ (w1 := ?_) (v := ?_) (by rfl) rfl ?_ ?_
  rotate_left 2
  · go_simp
    constructor
    · rfl
    · rfl
  refine hK.out _ _ ⟨pw_cell_below ((Below.refl _ _).alloc (Nat.le_refl _) _) hHeld.1, pw_cell_below ((Below.refl _ _).alloc (Nat.le_refl _) _) hHeld.2.1, pw_cell_below ((Below.refl _ _).alloc (Nat.le_refl _) _) hHeld.2.2⟩ (fun hHeld => ?_)
  clear hK K
  refine norm_ (a' := ?_) ?_ ?_
  rotate_left
  · show Act.put _ (some 88) _ = _
    simp only [Act.put, List.setIfInBounds_toArray, List.set_cons_zero, List.set_cons_succ]
    rfl
  refine last_ (i := 15) (N := some 89) #[true, true, true, true, true, true, true, true, true, true, true, true, true, true, true, true, false, false, false] rfl rfl (by kernel_rfl) (by decide) (fun K hK => ?_)
  refine Kd.R_append_step k109 (w0 := w5) base (by rfl) (.tmp 78) (.tmp 88) 97 109 (.agg #[.int .i64 0, .int .i64 0, .string ⟨#[]⟩, .int .i64 0, .int .i64 0, .string ⟨#[]⟩, .slice none 0 0, .slice none 0 0, .slice none 0 0, .int .i64 0, .slice none 0 0, .slice none 0 0]) 192 rfl Try.underlying97 info109 rfl (by decide) (by decide) (.slice A n c) r.list (toldM port id x s y) _ (fun k => own k = 2 ∨ WE.heap.size ≤ k) (fun k => WE.heap.size ≤ k) rfl rfl ?hp ?hok ?hfr ?hO (Below.refl _ _) ?hS ?hl ?_
  case hp => exact k109_mkM _ _ _ (toldM port id x s y) (Kd.R_nil _ _ _ _ _) (Kd.R_nil _ _ _ _ _) (Kd.R_below (Kd.R_below (R_newer hu1.out HbE.out) hbw4.out) hbw5.out) (Kd.R_below (R_newer (Kd.R_lower hu2.out HBw3.out.size) HbE.out) hbw5.out) (R_newer (Kd.R_lower hu3.out HBw4.out.size) HbE.out)
  case hok => exact fun k hk => ⟨.inr hk, fun he => by have := Kd.R_lt HR.out k he.symm; omega⟩
  case hfr => exact fun k hk => .inr (Nat.le_trans HBw5.out.size hk)
  case hO => exact Kd.R_below (Kd.R_mono HR.out (fun _ hk => .inl hk)) HBw5.out
  case hS => exact Nat.le_trans HbE.out HBw5.out.size
  case hl => have := HLL.out; rw [← Hn.out]; omega
  intro v1 w6 hO4 hB4 hg4 hat4
  obtain ⟨A1, m1, c1, rfl⟩ := R_sliced hO4
  rw [Hn.out] at hg4
  have HA := Lib.hid (HXE.out.longer HbE.out HBw5.out hg4 hO4)
  have HG4 : Hid (w6.heap[g]? = some (.cells #[.int .i64 r.mode, .int .i64 r.ports, .int .i64 r.back, .int .i64 r.last, .slice A r.list.length c, .bool r.handed] 99 (0, 0))) := (hg4.block g (Nat.lt_of_lt_of_le HXE.out.glt HBw5.out.size) HXE.out.gne).trans ((HBw5.out.block g HXE.out.glt).trans HXE.out.hb)
  clear hO4 hB4 hg4 hat4
  refine hK.out _ _ ?_
  clear hK K
  refine norm_ (a' := ?_) ?_ ?_
  rotate_left
  · show Act.put _ (some 89) _ = _
    simp only [Act.put, List.setIfInBounds_toArray, List.set_cons_zero, List.set_cons_succ]
    rfl
  refine pure_ (i := 16) (N := some 90) (v := ?_) (a' := ?_) #[true, true, true, true, true, true, true, true, true, true, true, true, true, true, true, true, true, false, false] rfl rfl (by kernel_rfl) (fun _ _ _ h => h) (Or.inl ⟨by rfl, ?_⟩) ?_ ?_
  rotate_left
  · intro w'
    go_simp
    with_reducible rfl
  rotate_left
  · simp only [Act.put, List.setIfInBounds_toArray, List.set_cons_zero, List.set_cons_succ]
    rfl
  refine pure_ (i := 17) (N := some 91) (v := ?_) (a' := ?_) #[true, true, true, true, true, true, true, true, true, true, true, true, true, true, true, true, true, true, false] rfl rfl (by kernel_rfl) (fun _ _ _ h => h) (Or.inl ⟨by rfl, ?_⟩) ?_ ?_
  rotate_left
  · intro w'
    go_simp
    with_reducible rfl
  rotate_left
  · simp only [Act.put, List.setIfInBounds_toArray, List.set_cons_zero, List.set_cons_succ]
    rfl
  refine last_ (i := 18) (N := none) #[true, true, true, true, true, true, true, true, true, true, true, true, true, true, true, true, true, true, true] rfl rfl (by kernel_rfl) (by decide) (fun K hK => ?_)
  have hs : w6.cell? ⟨g, 4, none⟩ = some (.slice A r.list.length c) := blk_at HG4.out 4 rfl
  have hf : w6.frozen? ⟨g, 4, none⟩ = false := blk_frozen HG4.out 4
  refine skip_ (w1 := ?_) (by rfl) rfl ?_ ?_
  rotate_left
  · go_simp
    rfl
  refine hK.out _ _ ?_
  clear hK K hs hf
  refine done_ (by kernel_rfl) ?_
  clear hHeld
  have H4 := Lib.hid HA.out.1
  have U4 : Hid (Upd own w _ _) := HUWE.out.trans HA.out.2
  have HC5 := Lib.hid (copied63 H4.out)
  clear HA
  by_cases hq : q < 0
  · have hq' : decide (q < 0) = true := decide_eq_true hq
    have HQ' := Lib.hid hq'
    clear hq
    go_wp2_with (first
      | (go_at_call 63; refine HC5.out.mono ?_; rintro e w7 ⟨rfl, hb7⟩))
    go_ret2
    refine ⟨?_, _, ⟨_, _, H4.out.below hb7.out⟩, U4.out.trans (Upd.of_below hb7.out (fun _ _ => rfl))⟩
    rw [HQ'.out]
    rfl
  · have hq' : decide (q < 0) = false := decide_eq_false hq
    have HQ' := Lib.hid hq'
    clear hq
    go_wp2
    go_ret2
    refine ⟨?_, _, ⟨_, _, H4.out⟩, U4.out⟩
    rw [HQ'.out]
    rfl

set_option maxRecDepth 100000 in
set_option maxHeartbeats 4000000 in
theorem mark50_new (h : RkAt w base own g r A c) (hbase : base ≤ w.heap.size) (port id : Int) (x : List S45) (Ax : Option Addr) (cx : Nat) (hx : Away k45 own w Ax x) (hcx : x.length ≤ cx) (hpx : partsRs x ≤ 100000) (s : S34) (As : Option Addr) (cs : Nat) (hs : Away k104 own w As s.f1) (hcs : s.f1.length ≤ cs) (hps : partsC s.f1 ≤ 100000) (y : List S45) (Ay : Option Addr) (cy : Nat) (hy : Away k45 own w Ay y) (hcy : y.length ≤ cy) (hpy : partsRs y ≤ 100000) (d0 : decide (port < 0) = false) (d1 : decide (r.ports ≤ port) = false) (d2 : decide (id < 1) = false) (d3 : decide (9999 < id) = false) (hh : r.held port = false) (d4 : decide (id < r.last) = false) (d5 : (id == r.last) = false) (d7 : decide (r.last < id) = true) : Calls Try.prog 50 #[.pointer (some ⟨g, 0, none⟩), .int .i64 port, .int .i64 id, .slice Ax x.length cx, .agg #[.int .i64 s.f0, .slice As s.f1.length cs], .slice Ay y.length cy] w fun e w' => e = .returned (.tuple #[.bool (decide ((r.freshed id).cop < 0) && decide (0 ≤ ((r.freshed id).add (toldM port id x s y)).cop)), .int .i64 0]) ∧ RkPost base own g ((r.freshed id).add (toldM port id x s y)) w w' := by
  have U0 : Hid (Below w.heap.size w (w.alloc (.cells #[.int .i64 s.f0, .slice As s.f1.length cs] 34))) := (Below.refl _ _).alloc (Nat.le_refl _) _
  have H0 : Hid (RkAt (w.alloc (.cells #[.int .i64 s.f0, .slice As s.f1.length cs] 34)) base own g r A c) := h.below U0.out
  have HH := Lib.hid (held53 H0.out port)
  have HX := Lib.hid h
  have Hbase := Lib.hid hbase
  have a1 : w.cell? ⟨g, 1, none⟩ = some (.int .i64 r.ports) := blk_at h.hb 1 rfl
  have a3 : w.cell? ⟨g, 3, none⟩ = some (.int .i64 r.last) := blk_at h.hb 3 rfl
  have A3 := Lib.hid a3
  have hgl : g < w.heap.size := h.glt
  rw [hh] at HH
  have HCx : Hid (∀ W, Upd own w own W → Calls Try.prog 64 #[.slice Ax x.length cx] W fun e w' => ∃ v, e = .returned v ∧ Hid (Kd.R k45 45 w' W.heap.size (fun _ => True) v x) ∧ Hid (Below W.heap.size W w')) := fun W hW => copyRecords64 x Ax cx W (hx own W hW) hcx hpx
  have HCy : Hid (∀ W, Upd own w own W → Calls Try.prog 64 #[.slice Ay y.length cy] W fun e w' => ∃ v, e = .returned v ∧ Hid (Kd.R k45 45 w' W.heap.size (fun _ => True) v y) ∧ Hid (Below W.heap.size W w')) := fun W hW => copyRecords64 y Ay cy W (hy own W hW) hcy hpy
  have HCs : Hid (∀ W, Upd own w own W → Calls Try.prog 65 #[.agg #[.int .i64 s.f0, .slice As s.f1.length cs]] W fun e w' => ∃ v, e = .returned (.agg #[.int .i64 s.f0, v]) ∧ Hid (Kd.R k104 104 w' W.heap.size (fun _ => True) v s.f1) ∧ Hid (Below W.heap.size W w')) := fun W hW => copyState65 s As cs W (hs own W hW) hcs hps
  have Hn : Hid (0 = (r.freshed id).list.length) := rfl
  have HLL : Hid (0 ≤ 100000000) := Nat.zero_le _
  clear hh
  clear h hbase hx hcx hpx hs hcs hps hy hcy hpy
  go_enter Try.func50, Try.ntmps50
  generalize hq0 : (r.freshed id).cop = q at *
  have HQ0 := Lib.hid hq0
  clear hq0
  go_wp2_with (first
    | (go_at_call 53; refine HH.out.mono ?_; rintro e w1 ⟨rfl, hb1⟩
       have HB1 : Hid (Below w.heap.size w w1) := U0.out.trans (hb1.out.mono U0.out.size)
       have b3 : w1.cell? ⟨g, 3, none⟩ = some (.int .i64 r.last) := (HB1.out.cell (World.block_lt_of_cell? w _ A3.out)).trans A3.out
       have f3 : w1.frozen? ⟨g, 3, none⟩ = false := blk_frozen (HX.out.below HB1.out).hb 3
       have f4 : w1.frozen? ⟨g, 4, none⟩ = false := blk_frozen (HX.out.below HB1.out).hb 4
       have f5 : w1.frozen? ⟨g, 5, none⟩ = false := blk_frozen (HX.out.below HB1.out).hb 5
       have b4 : w1.cell? ⟨g, 4, none⟩ = some (.slice A r.list.length c) := blk_at (HX.out.below HB1.out).hb 4 rfl
       have b5 : w1.cell? ⟨g, 5, none⟩ = some (.bool r.handed) := blk_at (HX.out.below HB1.out).hb 5 rfl
       have HN := Lib.hid ((HX.out.below HB1.out).freshd id).1
       have HU : Hid (Upd own w own _) := (Upd.of_below HB1.out (fun _ _ => rfl)).trans ((HX.out.below HB1.out).freshd id).2
       have HBN : Hid ((((w1.setCell ⟨g, 3, none⟩ (.int .i64 id)).setCell ⟨g, 4, none⟩ (.slice none 0 0)).setCell ⟨g, 5, none⟩ (.bool false)).heap[w.heap.size]? = some (.cells #[.int .i64 s.f0, .slice As s.f1.length cs] 34 (0, 0))) := blk_far (blk_far (blk_far ((hb1.out.block _ (by simp)).trans (blk_new w _)) (Nat.ne_of_gt HX.out.glt) _) (Nat.ne_of_gt HX.out.glt) _) (Nat.ne_of_gt HX.out.glt) _
       clear hb1)
    | (go_at_call 63; refine (copied63 HN.out).mono ?_; rintro e we ⟨he, hbe⟩
       rw [HQ0.out] at he
       subst he
       have HXE0 : Hid (RkAt we base own g (r.freshed id) none 0) := HN.out.below hbe.out
       have HUE0 : Hid (Upd own w own we) := HU.out.trans (Upd.of_below hbe.out (fun _ _ => rfl))
       have HBX : Hid (we.heap[w.heap.size]? = some (.cells #[.int .i64 s.f0, .slice As s.f1.length cs] 34 (0, 0))) := (hbe.out.block _ (blk_lt HBN.out)).trans HBN.out
       have HE4 : Hid (we.cell? ⟨g, 4, none⟩ = some (.slice none 0 0)) := by rw [Hn.out]; exact Lib.hid (blk_at HXE0.out.hb 4 rfl)
       clear hbe))
  refine start_ (n := 19) (S := (fun w' => w'.cell? ⟨g, 4, none⟩ = some (.slice none 0 0) ∧ w'.cell? ⟨w.heap.size, 0, none⟩ = some (.int .i64 s.f0) ∧ w'.cell? ⟨w.heap.size, 1, none⟩ = some (.slice As s.f1.length cs))) (ds := [15, 18]) #[false, false, false, false, false, false, false, false, false, false, false, false, false, false, false, false, false, false, false] (by kernel_rfl) rfl rfl ⟨(show we.drew.cell? _ = _ from HE4.out), blk_at (show we.drew.heap[w.heap.size]? = _ from HBX.out) 0 rfl, blk_at (show we.drew.heap[w.heap.size]? = _ from HBX.out) 1 rfl⟩ (fun hHeld => ?_)
  have HXE : Hid (RkAt we.drew base own g (r.freshed id) none 0) := HXE0.out.below (Below.refl _ _).drew
  have HUWE : Hid (Upd own w own we.drew) := HUE0.out.trans (Upd.of_below (Below.refl _ _).drew (fun _ _ => rfl))
  clear HXE0 HUE0 HE4 HBX
  generalize we.drew = WE at hHeld HXE HUWE ⊢
  have HBWE : Hid (Below WE.heap.size WE WE) := Below.refl _ _
  have HbE : Hid (base ≤ WE.heap.size) := Nat.le_trans Hbase.out HUWE.out.size
  have HR : Hid (Kd.R k109 109 WE base (fun k => own k = 2) (.slice none 0 0) (r.freshed id).list) := by rw [Hn.out]; exact HXE.out.hl
  refine pure_ (i := 0) (N := some 74) (v := ?_) (a' := ?_) #[true, false, false, false, false, false, false, false, false, false, false, false, false, false, false, false, false, false, false] rfl rfl (by kernel_rfl) (fun _ _ _ h => h) (Or.inl ⟨by rfl, ?_⟩) ?_ ?_
  rotate_left
  · intro w'
    go_simp
    with_reducible rfl
  rotate_left
  · simp only [Act.put, List.setIfInBounds_toArray, List.set_cons_zero, List.set_cons_succ]
    rfl
  refine pure_ (i := 1) (N := some 75) (v := ?_) (a' := ?_) #[true, true, false, false, false, false, false, false, false, false, false, false, false, false, false, false, false, false, false] rfl rfl (by kernel_rfl) (fun _ _ _ h => h) (Or.inl ⟨by rfl, ?_⟩) ?_ ?_
  rotate_left
  · intro w'
    go_simp
    with_reducible rfl
  rotate_left
  · simp only [Act.put, List.setIfInBounds_toArray, List.set_cons_zero, List.set_cons_succ]
    rfl
  refine pure_ (i := 2) (N := some 76) (v := ?_) (a' := ?_) #[true, true, true, false, false, false, false, false, false, false, false, false, false, false, false, false, false, false, false] rfl rfl (by kernel_rfl) (fun _ _ _ h => h) (Or.inl ⟨by rfl, ?_⟩) ?_ ?_
  rotate_left
  · intro w'
    go_simp
    with_reducible rfl
  rotate_left
  · simp only [Act.put, List.setIfInBounds_toArray, List.set_cons_zero, List.set_cons_succ]
    rfl
  refine pure_ (i := 3) (N := some 77) (v := ?_) (a' := ?_) #[true, true, true, true, false, false, false, false, false, false, false, false, false, false, false, false, false, false, false] rfl rfl (by kernel_rfl) (fun _ _ _ h => h) (Or.inl ⟨by rfl, ?_⟩) ?_ ?_
  rotate_left
  · intro w'
    go_simp
    with_reducible rfl
  rotate_left
  · simp only [Act.put, List.setIfInBounds_toArray, List.set_cons_zero, List.set_cons_succ]
    rfl
  refine take_ (i := 4) (N := some 78) (v := ?_) (a' := ?_) #[true, true, true, true, true, false, false, false, false, false, false, false, false, false, false, false, false, false, false] rfl rfl (by kernel_rfl) (fun _ _ _ h => h) (Or.inl ⟨by rfl, ?_⟩) hHeld ?_ ?_
  rotate_left
  · rintro w' ⟨s0, s1, s2⟩
    go_simp
    with_reducible rfl
  rotate_left
  · simp only [Act.put, List.setIfInBounds_toArray, List.set_cons_zero, List.set_cons_succ]
    rfl
  refine pure_ (i := 5) (N := some 79) (v := ?_) (a' := ?_) #[true, true, true, true, true, true, false, false, false, false, false, false, false, false, false, false, false, false, false] rfl rfl (by kernel_rfl) (fun _ _ _ h => h) (Or.inl ⟨by rfl, ?_⟩) ?_ ?_
  rotate_left
  · intro w'
    go_simp
    with_reducible rfl
  rotate_left
  · simp only [Act.put, List.setIfInBounds_toArray, List.set_cons_zero, List.set_cons_succ]
    rfl
  refine pure_ (i := 6) (N := some 80) (v := ?_) (a' := ?_) #[true, true, true, true, true, true, true, false, false, false, false, false, false, false, false, false, false, false, false] rfl rfl (by kernel_rfl) (fun _ _ _ h => h) (Or.inl ⟨by rfl, ?_⟩) ?_ ?_
  rotate_left
  · intro w'
    go_simp
    with_reducible rfl
  rotate_left
  · simp only [Act.put, List.setIfInBounds_toArray, List.set_cons_zero, List.set_cons_succ]
    rfl
  refine pure_ (i := 7) (N := some 81) (v := ?_) (a' := ?_) #[true, true, true, true, true, true, true, true, false, false, false, false, false, false, false, false, false, false, false] rfl rfl (by kernel_rfl) (fun _ _ _ h => h) (Or.inl ⟨by rfl, ?_⟩) ?_ ?_
  rotate_left
  · intro w'
    go_simp
    with_reducible rfl
  rotate_left
  · simp only [Act.put, List.setIfInBounds_toArray, List.set_cons_zero, List.set_cons_succ]
    rfl
  refine take_ (i := 9) (N := some 83) (v := ?_) (a' := ?_) #[true, true, true, true, true, true, true, true, false, true, false, false, false, false, false, false, false, false, false] rfl rfl (by kernel_rfl) (fun _ _ _ h => h) (Or.inl ⟨by rfl, ?_⟩) hHeld ?_ ?_
  rotate_left
  · rintro w' ⟨s0, s1, s2⟩
    go_simp
    with_reducible rfl
  rotate_left
  · simp only [Act.put, List.setIfInBounds_toArray, List.set_cons_zero, List.set_cons_succ]
    rfl
  refine pure_ (i := 11) (N := some 85) (v := ?_) (a' := ?_) #[true, true, true, true, true, true, true, true, false, true, false, true, false, false, false, false, false, false, false] rfl rfl (by kernel_rfl) (fun _ _ _ h => h) (Or.inl ⟨by rfl, ?_⟩) ?_ ?_
  rotate_left
  · intro w'
    go_simp
    with_reducible rfl
  rotate_left
  · simp only [Act.put, List.setIfInBounds_toArray, List.set_cons_zero, List.set_cons_succ]
    rfl
  refine one_ (i := 8) (N := some 82) #[true, true, true, true, true, true, true, true, true, true, false, true, false, false, false, false, false, false, false] rfl rfl (by kernel_rfl) (by decide) (fun K hK => ?_)
  refine goes_ Try.func64 (by kernel_rfl) rfl #[.slice Ax x.length cx] (by rfl) rfl rfl (by simp only [List.map_toArray, List.map_cons, List.map_nil]; rfl) ?_
  refine (HCx.out WE HUWE.out).mono ?_
  rintro e w3 ⟨u1, rfl, hu1, hbw3⟩
  have HBw3 : Hid (Below WE.heap.size WE w3) := HBWE.out.trans (hbw3.out.mono HBWE.out.size)
  have HUw3 : Hid (Upd own w own w3) := HUWE.out.trans (Upd.of_below hbw3.out (fun _ _ => rfl))
  refine ⟨_, rfl, ?_⟩
  obtain ⟨Bu1, du1, rfl⟩ := Kd.R_slice hu1.out
  refine hK.out _ _ ⟨pw_cell_below hbw3.out hHeld.1, pw_cell_below hbw3.out hHeld.2.1, pw_cell_below hbw3.out hHeld.2.2⟩ (fun hHeld => ?_)
  clear hK K
  refine norm_ (a' := ?_) ?_ ?_
  rotate_left
  · show Act.put _ (some 82) _ = _
    simp only [Act.put, List.setIfInBounds_toArray, List.set_cons_zero, List.set_cons_succ]
    rfl
  refine one_ (i := 10) (N := some 84) #[true, true, true, true, true, true, true, true, true, true, true, true, false, false, false, false, false, false, false] rfl rfl (by kernel_rfl) (by decide) (fun K hK => ?_)
  refine goes_ Try.func65 (by kernel_rfl) rfl #[.agg #[.int .i64 s.f0, .slice As s.f1.length cs]] (by rfl) rfl rfl (by simp only [List.map_toArray, List.map_cons, List.map_nil]; rfl) ?_
  refine (HCs.out w3 HUw3.out).mono ?_
  rintro e w4 ⟨u2, rfl, hu2, hbw4⟩
  have HBw4 : Hid (Below WE.heap.size WE w4) := HBw3.out.trans (hbw4.out.mono HBw3.out.size)
  have HUw4 : Hid (Upd own w own w4) := HUw3.out.trans (Upd.of_below hbw4.out (fun _ _ => rfl))
  refine ⟨_, rfl, ?_⟩
  obtain ⟨Bu2, du2, rfl⟩ := Kd.R_slice hu2.out
  refine hK.out _ _ ⟨pw_cell_below hbw4.out hHeld.1, pw_cell_below hbw4.out hHeld.2.1, pw_cell_below hbw4.out hHeld.2.2⟩ (fun hHeld => ?_)
  clear hK K
  refine norm_ (a' := ?_) ?_ ?_
  rotate_left
  · show Act.put _ (some 84) _ = _
    simp only [Act.put, List.setIfInBounds_toArray, List.set_cons_zero, List.set_cons_succ]
    rfl
  refine one_ (i := 12) (N := some 86) #[true, true, true, true, true, true, true, true, true, true, true, true, true, false, false, false, false, false, false] rfl rfl (by kernel_rfl) (by decide) (fun K hK => ?_)
  refine goes_ Try.func64 (by kernel_rfl) rfl #[.slice Ay y.length cy] (by rfl) rfl rfl (by simp only [List.map_toArray, List.map_cons, List.map_nil]; rfl) ?_
  refine (HCy.out w4 HUw4.out).mono ?_
  rintro e w5 ⟨u3, rfl, hu3, hbw5⟩
  have HBw5 : Hid (Below WE.heap.size WE w5) := HBw4.out.trans (hbw5.out.mono HBw4.out.size)
  have HUw5 : Hid (Upd own w own w5) := HUw4.out.trans (Upd.of_below hbw5.out (fun _ _ => rfl))
  refine ⟨_, rfl, ?_⟩
  obtain ⟨Bu3, du3, rfl⟩ := Kd.R_slice hu3.out
  refine hK.out _ _ ⟨pw_cell_below hbw5.out hHeld.1, pw_cell_below hbw5.out hHeld.2.1, pw_cell_below hbw5.out hHeld.2.2⟩ (fun hHeld => ?_)
  clear hK K
  refine norm_ (a' := ?_) ?_ ?_
  rotate_left
  · show Act.put _ (some 86) _ = _
    simp only [Act.put, List.setIfInBounds_toArray, List.set_cons_zero, List.set_cons_succ]
    rfl
  refine pure_ (i := 13) (N := some 87) (v := ?_) (a' := ?_) #[true, true, true, true, true, true, true, true, true, true, true, true, true, true, false, false, false, false, false] rfl rfl (by kernel_rfl) (fun _ _ _ h => h) (Or.inl ⟨by rfl, ?_⟩) ?_ ?_
  rotate_left
  · intro w'
    go_simp
    with_reducible rfl
  rotate_left
  · simp only [Act.put, List.setIfInBounds_toArray, List.set_cons_zero, List.set_cons_succ]
    rfl
  refine one_ (i := 14) (N := some 88) #[true, true, true, true, true, true, true, true, true, true, true, true, true, true, true, false, false, false, false] rfl rfl (by kernel_rfl) (by decide) (fun K hK => ?_)
  refine value_ (w1 := ?_) (v := ?_) (by rfl) rfl ?_ ?_
  rotate_left 2
  · go_simp
    constructor
    · rfl
    · rfl
  refine hK.out _ _ ⟨pw_cell_below ((Below.refl _ _).alloc (Nat.le_refl _) _) hHeld.1, pw_cell_below ((Below.refl _ _).alloc (Nat.le_refl _) _) hHeld.2.1, pw_cell_below ((Below.refl _ _).alloc (Nat.le_refl _) _) hHeld.2.2⟩ (fun hHeld => ?_)
  clear hK K
  refine norm_ (a' := ?_) ?_ ?_
  rotate_left
  · show Act.put _ (some 88) _ = _
    simp only [Act.put, List.setIfInBounds_toArray, List.set_cons_zero, List.set_cons_succ]
    rfl
  refine last_ (i := 15) (N := some 89) #[true, true, true, true, true, true, true, true, true, true, true, true, true, true, true, true, false, false, false] rfl rfl (by kernel_rfl) (by decide) (fun K hK => ?_)
  refine Kd.R_append_step k109 (w0 := w5) base (by rfl) (.tmp 78) (.tmp 88) 97 109 (.agg #[.int .i64 0, .int .i64 0, .string ⟨#[]⟩, .int .i64 0, .int .i64 0, .string ⟨#[]⟩, .slice none 0 0, .slice none 0 0, .slice none 0 0, .int .i64 0, .slice none 0 0, .slice none 0 0]) 192 rfl Try.underlying97 info109 rfl (by decide) (by decide) (.slice none 0 0) (r.freshed id).list (toldM port id x s y) _ (fun k => own k = 2 ∨ WE.heap.size ≤ k) (fun k => WE.heap.size ≤ k) rfl rfl ?hp ?hok ?hfr ?hO (Below.refl _ _) ?hS ?hl ?_
  case hp => exact k109_mkM _ _ _ (toldM port id x s y) (Kd.R_nil _ _ _ _ _) (Kd.R_nil _ _ _ _ _) (Kd.R_below (Kd.R_below (R_newer hu1.out HbE.out) hbw4.out) hbw5.out) (Kd.R_below (R_newer (Kd.R_lower hu2.out HBw3.out.size) HbE.out) hbw5.out) (R_newer (Kd.R_lower hu3.out HBw4.out.size) HbE.out)
  case hok => exact fun k hk => ⟨.inr hk, fun he => by have := Kd.R_lt HR.out k he.symm; omega⟩
  case hfr => exact fun k hk => .inr (Nat.le_trans HBw5.out.size hk)
  case hO => exact Kd.R_below (Kd.R_mono HR.out (fun _ hk => .inl hk)) HBw5.out
  case hS => exact Nat.le_trans HbE.out HBw5.out.size
  case hl => have := HLL.out; rw [← Hn.out]; omega
  intro v1 w6 hO4 hB4 hg4 hat4
  obtain ⟨A1, m1, c1, rfl⟩ := R_sliced hO4
  rw [Hn.out] at hg4
  have HA := Lib.hid (HXE.out.longer HbE.out HBw5.out hg4 hO4)
  have HG4 : Hid (w6.heap[g]? = some (.cells #[.int .i64 (r.freshed id).mode, .int .i64 (r.freshed id).ports, .int .i64 (r.freshed id).back, .int .i64 (r.freshed id).last, .slice none (r.freshed id).list.length 0, .bool (r.freshed id).handed] 99 (0, 0))) := (hg4.block g (Nat.lt_of_lt_of_le HXE.out.glt HBw5.out.size) HXE.out.gne).trans ((HBw5.out.block g HXE.out.glt).trans HXE.out.hb)
  clear hO4 hB4 hg4 hat4
  refine hK.out _ _ ?_
  clear hK K
  refine norm_ (a' := ?_) ?_ ?_
  rotate_left
  · show Act.put _ (some 89) _ = _
    simp only [Act.put, List.setIfInBounds_toArray, List.set_cons_zero, List.set_cons_succ]
    rfl
  refine pure_ (i := 16) (N := some 90) (v := ?_) (a' := ?_) #[true, true, true, true, true, true, true, true, true, true, true, true, true, true, true, true, true, false, false] rfl rfl (by kernel_rfl) (fun _ _ _ h => h) (Or.inl ⟨by rfl, ?_⟩) ?_ ?_
  rotate_left
  · intro w'
    go_simp
    with_reducible rfl
  rotate_left
  · simp only [Act.put, List.setIfInBounds_toArray, List.set_cons_zero, List.set_cons_succ]
    rfl
  refine pure_ (i := 17) (N := some 91) (v := ?_) (a' := ?_) #[true, true, true, true, true, true, true, true, true, true, true, true, true, true, true, true, true, true, false] rfl rfl (by kernel_rfl) (fun _ _ _ h => h) (Or.inl ⟨by rfl, ?_⟩) ?_ ?_
  rotate_left
  · intro w'
    go_simp
    with_reducible rfl
  rotate_left
  · simp only [Act.put, List.setIfInBounds_toArray, List.set_cons_zero, List.set_cons_succ]
    rfl
  refine last_ (i := 18) (N := none) #[true, true, true, true, true, true, true, true, true, true, true, true, true, true, true, true, true, true, true] rfl rfl (by kernel_rfl) (by decide) (fun K hK => ?_)
  have hs : w6.cell? ⟨g, 4, none⟩ = some (.slice none (r.freshed id).list.length 0) := blk_at HG4.out 4 rfl
  have hf : w6.frozen? ⟨g, 4, none⟩ = false := blk_frozen HG4.out 4
  refine skip_ (w1 := ?_) (by rfl) rfl ?_ ?_
  rotate_left
  · go_simp
    rfl
  refine hK.out _ _ ?_
  clear hK K hs hf
  refine done_ (by kernel_rfl) ?_
  clear hHeld
  have H4 := Lib.hid HA.out.1
  have U4 : Hid (Upd own w _ _) := HUWE.out.trans HA.out.2
  have HC5 := Lib.hid (copied63 H4.out)
  clear HA
  by_cases hq : q < 0
  · have hq' : decide (q < 0) = true := decide_eq_true hq
    have HQ' := Lib.hid hq'
    clear hq
    go_wp2_with (first
      | (go_at_call 63; refine HC5.out.mono ?_; rintro e w7 ⟨rfl, hb7⟩))
    go_ret2
    refine ⟨?_, _, ⟨_, _, H4.out.below hb7.out⟩, U4.out.trans (Upd.of_below hb7.out (fun _ _ => rfl))⟩
    rw [HQ'.out]
    rfl
  · have hq' : decide (q < 0) = false := decide_eq_false hq
    have HQ' := Lib.hid hq'
    clear hq
    go_wp2
    go_ret2
    refine ⟨?_, _, ⟨_, _, H4.out⟩, U4.out⟩
    rw [HQ'.out]
    rfl

theorem mark50 (h : RkAt w base own g r A c) (hbase : base ≤ w.heap.size) (port id : Int) (x : List S45) (Ax : Option Addr) (cx : Nat) (hx : Away k45 own w Ax x) (hcx : x.length ≤ cx) (hpx : partsRs x ≤ 100000) (s : S34) (As : Option Addr) (cs : Nat) (hs : Away k104 own w As s.f1) (hcs : s.f1.length ≤ cs) (hps : partsC s.f1 ≤ 100000) (y : List S45) (Ay : Option Addr) (cy : Nat) (hy : Away k45 own w Ay y) (hcy : y.length ≤ cy) (hpy : partsRs y ≤ 100000) (hll : r.list.length ≤ 100000000) : Calls Try.prog 50 #[.pointer (some ⟨g, 0, none⟩), .int .i64 port, .int .i64 id, .slice Ax x.length cx, .agg #[.int .i64 s.f0, .slice As s.f1.length cs], .slice Ay y.length cy] w fun e w' => e = .returned (.tuple #[.bool (r.markC port id x s y), .int .i64 (r.markE port id)]) ∧ RkPost base own g (r.mark port id x s y) w w' := by
  have bad : ∀ E, r.markE port id = E → E ≠ 0 → (Calls Try.prog 50 #[.pointer (some ⟨g, 0, none⟩), .int .i64 port, .int .i64 id, .slice Ax x.length cx, .agg #[.int .i64 s.f0, .slice As s.f1.length cs], .slice Ay y.length cy] w fun e w' => e = .returned (.tuple #[.bool false, .int .i64 E]) ∧ RkPost base own g r w w') → Calls Try.prog 50 #[.pointer (some ⟨g, 0, none⟩), .int .i64 port, .int .i64 id, .slice Ax x.length cx, .agg #[.int .i64 s.f0, .slice As s.f1.length cs], .slice Ay y.length cy] w fun e w' => e = .returned (.tuple #[.bool (r.markC port id x s y), .int .i64 (r.markE port id)]) ∧ RkPost base own g (r.mark port id x s y) w w' := fun E hE h0 hc => by
    have h1 : r.markC port id x s y = false := by unfold Rk.markC; rw [hE, beq_false_of_ne h0]; rfl
    have h2 : r.mark port id x s y = r := by unfold Rk.mark; rw [if_neg (by rw [hE]; exact fun h => h0 h.1)]
    rw [h1, h2, hE]
    exact hc
  by_cases a0 : port < 0
  · exact bad 132 (by unfold Rk.markE; rw [if_pos (.inl a0)]) (by decide) (mark50_lo h hbase port id x Ax cx hx hcx hpx s As cs hs hcs hps y Ay cy hy hcy hpy (decide_eq_true a0))
  by_cases a1 : r.ports ≤ port
  · exact bad 132 (by unfold Rk.markE; rw [if_pos (.inr a1)]) (by decide) (mark50_hi h hbase port id x Ax cx hx hcx hpx s As cs hs hcs hps y Ay cy hy hcy hpy (decide_eq_false a0) (decide_eq_true a1))
  by_cases a2 : id < 1
  · exact bad 133 (by unfold Rk.markE; rw [if_neg (by omega), if_pos (.inl a2)]) (by decide) (mark50_small h hbase port id x Ax cx hx hcx hpx s As cs hs hcs hps y Ay cy hy hcy hpy (decide_eq_false a0) (decide_eq_false a1) (decide_eq_true a2))
  by_cases a3 : 9999 < id
  · exact bad 133 (by unfold Rk.markE; rw [if_neg (by omega), if_pos (.inr a3)]) (by decide) (mark50_great h hbase port id x Ax cx hx hcx hpx s As cs hs hcs hps y Ay cy hy hcy hpy (decide_eq_false a0) (decide_eq_false a1) (decide_eq_false a2) (decide_eq_true a3))
  have hE' : r.markE port id = if r.held port = true then 134 else 0 := by unfold Rk.markE; rw [if_neg (by omega), if_neg (by omega)]
  rcases hh : r.held port with _ | _
  rotate_left
  · exact bad 134 (by rw [hE', if_pos hh]) (by decide) (mark50_held h hbase port id x Ax cx hx hcx hpx s As cs hs hcs hps y Ay cy hy hcy hpy (decide_eq_false a0) (decide_eq_false a1) (decide_eq_false a2) (decide_eq_false a3) hh)
  have hE : r.markE port id = 0 := by rw [hE', if_neg (by simp [hh])]
  have skip : r.skips port id = true → (Calls Try.prog 50 #[.pointer (some ⟨g, 0, none⟩), .int .i64 port, .int .i64 id, .slice Ax x.length cx, .agg #[.int .i64 s.f0, .slice As s.f1.length cs], .slice Ay y.length cy] w fun e w' => e = .returned (.tuple #[.bool false, .int .i64 0]) ∧ RkPost base own g r w w') → Calls Try.prog 50 #[.pointer (some ⟨g, 0, none⟩), .int .i64 port, .int .i64 id, .slice Ax x.length cx, .agg #[.int .i64 s.f0, .slice As s.f1.length cs], .slice Ay y.length cy] w fun e w' => e = .returned (.tuple #[.bool (r.markC port id x s y), .int .i64 (r.markE port id)]) ∧ RkPost base own g (r.mark port id x s y) w w' := fun hs hc => by
    have h1 : r.markC port id x s y = false := by unfold Rk.markC; rw [hs]; simp
    have h2 : r.mark port id x s y = r := by unfold Rk.mark; rw [if_neg (by rw [hs]; simp)]
    rw [h1, h2, hE]
    exact hc
  have goes : ∀ r1, r.begun id = r1 → r.skips port id = false → (Calls Try.prog 50 #[.pointer (some ⟨g, 0, none⟩), .int .i64 port, .int .i64 id, .slice Ax x.length cx, .agg #[.int .i64 s.f0, .slice As s.f1.length cs], .slice Ay y.length cy] w fun e w' => e = .returned (.tuple #[.bool (decide (r1.cop < 0) && decide (0 ≤ (r1.add (toldM port id x s y)).cop)), .int .i64 0]) ∧ RkPost base own g (r1.add (toldM port id x s y)) w w') → Calls Try.prog 50 #[.pointer (some ⟨g, 0, none⟩), .int .i64 port, .int .i64 id, .slice Ax x.length cx, .agg #[.int .i64 s.f0, .slice As s.f1.length cs], .slice Ay y.length cy] w fun e w' => e = .returned (.tuple #[.bool (r.markC port id x s y), .int .i64 (r.markE port id)]) ∧ RkPost base own g (r.mark port id x s y) w w' := fun r1 h1 hs hc => by
    have h2 : r.mark port id x s y = r1.add (toldM port id x s y) := by unfold Rk.mark; rw [if_pos ⟨hE, hs⟩, h1]
    have h3 : r.markC port id x s y = (decide (r1.cop < 0) && decide (0 ≤ (r1.add (toldM port id x s y)).cop)) := by unfold Rk.markC; rw [h2, hs, hE, h1]; simp
    rw [h3, h2, hE]
    exact hc
  by_cases a4 : id < r.last
  · exact skip (by unfold Rk.skips; rw [decide_eq_true a4]; rfl) (mark50_older h hbase port id x Ax cx hx hcx hpx s As cs hs hcs hps y Ay cy hy hcy hpy (decide_eq_false a0) (decide_eq_false a1) (decide_eq_false a2) (decide_eq_false a3) hh (decide_eq_true a4))
  by_cases a5 : id = r.last
  · have b5 : (id == r.last) = true := by simp [a5]
    by_cases a6 : 0 ≤ r.clo port
    · exact skip (by unfold Rk.skips; rw [b5, decide_eq_true a6]; simp) (mark50_again h hbase port id x Ax cx hx hcx hpx s As cs hs hcs hps y Ay cy hy hcy hpy (decide_eq_false a0) (decide_eq_false a1) (decide_eq_false a2) (decide_eq_false a3) hh (decide_eq_false a4) b5 (decide_eq_true a6))
    · exact goes r (by unfold Rk.begun; rw [if_neg (by omega)]) (by unfold Rk.skips; rw [decide_eq_false a4, decide_eq_false a6]; simp) (mark50_same h hbase port id x Ax cx hx hcx hpx s As cs hs hcs hps y Ay cy hy hcy hpy (decide_eq_false a0) (decide_eq_false a1) (decide_eq_false a2) (decide_eq_false a3) hh (decide_eq_false a4) b5 (decide_eq_false a6) (decide_eq_false (by omega)) hll)
  · have b5 : (id == r.last) = false := beq_false_of_ne a5
    exact goes (r.freshed id) (by unfold Rk.begun; rw [if_pos (by omega)]) (by unfold Rk.skips; rw [decide_eq_false a4, b5]; rfl) (mark50_new h hbase port id x Ax cx hx hcx hpx s As cs hs hcs hps y Ay cy hy hcy hpy (decide_eq_false a0) (decide_eq_false a1) (decide_eq_false a2) (decide_eq_false a3) hh (decide_eq_false a4) b5 (decide_eq_true (by omega)))
end
end Go.Proofs.Ytomfknblehkocaa.C
